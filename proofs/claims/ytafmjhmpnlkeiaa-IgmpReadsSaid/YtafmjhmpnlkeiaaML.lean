/- A part of the proof of IgmpReads: whatever the bytes, the law returns true. Merged by a program of this work, without what is not used: GLaw9, GLaw10, GLaw11, F5, F4, GLaw12, LawIgmpReads. -/
import Derived.Test.YtafmjhmpnlkeiaaMK

namespace Go.Proofs.Ytafmjhmpnlkeiaa.P
open Go.RowKit Go.Shelf Go.Proofs.YtafmjhmpnlkeiaaW.PrintWords Go.Proofs.YtafmjhmpnlkeiaaW.PrintLast Go.Proofs.YtafmjhmpnlkeiaaW.PrintMore
set_option linter.unusedVariables false
set_option linter.unusedSimpArgs false
theorem ok_get {l : List Int} (h : okBytes l = true) (i : Nat) : 0 ≤ rd l (i : Int) ∧ rd l (i : Int) ≤ 255 := by
  by_cases hi : i < l.length
  · exact ok_rd h i hi
  · unfold rd
    simp only [Int.toNat_natCast]
    rw [List.getD_eq_getElem?_getD, List.getElem?_eq_none (by omega)]
    simp
theorem wraps_u32 (n : Int) (h₀ : 0 ≤ n) (h₁ : n < 2 ^ 32) : IntKind.u32.wrap n = n := by
  simp [IntKind.wrap, IntKind.bits, IntKind.signed]
  omega
theorem u32_or8 {a b : Int} (h0 : 0 ≤ a) (h1 : a < 16777216) (h2 : 0 ≤ b) (h3 : b ≤ 255) : bits .or .u32 (a * 256) b = a * 256 + b :=
  bits_join .u32 32 (by decide) wraps_u32 8 (a * 256) b (by omega) (by omega) (by omega) h2 (by omega) (by omega)
theorem addrV_four (a b c d : Int) (ha : 0 ≤ a ∧ a ≤ 255) (hb : 0 ≤ b ∧ b ≤ 255) (hc : 0 ≤ c ∧ c ≤ 255) (hd : 0 ≤ d ∧ d ≤ 255) : addrV [a, b, c, d] = ((a * 256 + b) * 256 + c) * 256 + d := by
  have e0 : bits .or .u32 ((0 * 256) % 4294967296) (a % 4294967296) = a := by
    rw [Int.emod_eq_of_lt (show (0 : Int) ≤ 0 * 256 by omega) (by omega), Int.emod_eq_of_lt ha.1 (by omega), u32_or8 (by omega) (by omega) ha.1 ha.2]
    omega
  have e1 : bits .or .u32 ((a * 256) % 4294967296) (b % 4294967296) = a * 256 + b := by
    rw [Int.emod_eq_of_lt (show (0 : Int) ≤ a * 256 by omega) (by omega), Int.emod_eq_of_lt hb.1 (by omega), u32_or8 (by omega) (by omega) hb.1 hb.2]
  have e2 : bits .or .u32 (((a * 256 + b) * 256) % 4294967296) (c % 4294967296) = (a * 256 + b) * 256 + c := by
    rw [Int.emod_eq_of_lt (show (0 : Int) ≤ (a * 256 + b) * 256 by omega) (by omega), Int.emod_eq_of_lt hc.1 (by omega), u32_or8 (by omega) (by omega) hc.1 hc.2]
  have e3 : bits .or .u32 ((((a * 256 + b) * 256 + c) * 256) % 4294967296) (d % 4294967296) = ((a * 256 + b) * 256 + c) * 256 + d := by
    rw [Int.emod_eq_of_lt (show (0 : Int) ≤ ((a * 256 + b) * 256 + c) * 256 by omega) (by omega), Int.emod_eq_of_lt hd.1 (by omega), u32_or8 (by omega) (by omega) hd.1 hd.2]
  have r0 : rd [a, b, c, d] 0 = a := rfl
  have r1 : rd [a, b, c, d] 1 = b := rfl
  have r2 : rd [a, b, c, d] 2 = c := rfl
  have r3 : rd [a, b, c, d] 3 = d := rfl
  have w1 : wrap64 (0 + 1) = 1 := by unfold wrap64; omega
  have w2 : wrap64 (1 + 1) = 2 := by unfold wrap64; omega
  have w3 : wrap64 (2 + 1) = 3 := by unfold wrap64; omega
  have w4 : wrap64 (3 + 1) = 4 := by unfold wrap64; omega
  have hf : addr_Of.f 5 [a, b, c, d] = some (((a * 256 + b) * 256 + c) * 256 + d, 0) := by
    unfold addr_Of.f
    rw [if_neg (by simp), if_neg (by simp)]
    simp only [addr_Of.l0]
    rw [if_pos (by simp), if_pos (by omega), if_pos (by simp), r0, e0, w1, if_pos (by simp), if_pos (by omega), if_pos (by simp), r1, e1, w2, if_pos (by simp), if_pos (by omega), if_pos (by simp), r2, e2, w3, if_pos (by simp), if_pos (by omega), if_pos (by simp), r3, e3, w4, if_neg (by simp)]
  unfold addrV
  rw [hf]
  rfl
theorem ref_of (a b c d : Int) (ha : 0 ≤ a ∧ a ≤ 255) (hb : 0 ≤ b ∧ b ≤ 255) (hc : 0 ≤ c ∧ c ≤ 255) (hd : 0 ≤ d ∧ d ≤ 255) : stolonref01_Of.f [a, b, c, d] = some (addrV [a, b, c, d], 0) := by
  rw [addrV_four a b c d ha hb hc hd]
  have r0 : rd [a, b, c, d] 0 = a := rfl
  have r1 : rd [a, b, c, d] 1 = b := rfl
  have r2 : rd [a, b, c, d] 2 = c := rfl
  have r3 : rd [a, b, c, d] 3 = d := rfl
  unfold stolonref01_Of.f
  rw [if_neg (by simp), if_neg (by simp), if_pos (by simp), if_pos (by simp), if_pos (by simp), if_pos (by simp), r0, r1, r2, r3]
  congr 2
  omega
theorem four_of {l : List Int} (h : l.length = 4) : ∃ a b c d, l = [a, b, c, d] := by
  match l, h with
  | [a, b, c, d], _ => exact ⟨a, b, c, d, rfl⟩
theorem ref_of' {l : List Int} (h : l.length = 4) (hok : okBytes l = true) : stolonref01_Of.f l = some (addrV l, 0) := by
  obtain ⟨a, b, c, d, rfl⟩ := four_of h
  rw [okBytes_iff'] at hok
  exact ref_of a b c d (hok a (by simp)) (hok b (by simp)) (hok c (by simp)) (hok d (by simp))
theorem ok_drop {l : List Int} (h : okBytes l = true) (i : Nat) : okBytes (l.drop i) = true := by
  rw [okBytes_iff'] at *
  exact fun x hx => h x (List.mem_of_mem_drop hx)
theorem ok_take {l : List Int} (h : okBytes l = true) (i : Nat) : okBytes (l.take i) = true := by
  rw [okBytes_iff'] at *
  exact fun x hx => h x (List.mem_of_mem_take hx)
theorem ref_at {l : List Int} (hok : okBytes l = true) (i : Nat) (hi : i + 4 ≤ l.length) (hl : l.length ≤ 3000) : stolonref05_at.f l (i : Int) = some (addrV ((l.drop i).take 4)) := by
  have w : wrap64 ((i : Int) + 4) = ((i + 4 : Nat) : Int) := by unfold wrap64; omega
  unfold stolonref05_at.f
  rw [w, if_pos (by omega), if_pos (by omega), if_pos (by omega)]
  have e : (l.take ((i + 4 : Nat) : Int).toNat).drop (i : Int).toNat = (l.drop i).take 4 := by
    simp only [Int.toNat_natCast]
    rw [List.drop_take]
    congr 1
    omega
  rw [e, ref_of' (by simp; omega) (ok_take (ok_drop hok i) 4)]
  rfl
theorem ref_two {l : List Int} (hok : okBytes l = true) (i : Nat) (hi : i + 2 ≤ l.length) (hl : l.length ≤ 3000) : stolonref05_two.f l (i : Int) = some (twoV ((l.drop i).take 2)) := by
  have w : wrap64 ((i : Int) + 1) = ((i + 1 : Nat) : Int) := by unfold wrap64; omega
  unfold stolonref05_two.f
  rw [w, if_pos (by omega), if_pos (by omega), if_pos (by omega), if_pos (by omega)]
  have b0 := ok_get hok i
  have b1 := ok_get hok (i + 1)
  have e0 : rd ((l.drop i).take 2) 0 = rd l i := (rd_take (l.drop i) 0 2 (by omega)).trans (rd_drop l 0 i)
  have e1 : rd ((l.drop i).take 2) 1 = rd l ((i + 1 : Nat) : Int) := (rd_take (l.drop i) 1 2 (by omega)).trans (rd_drop l 1 i)
  unfold twoV
  rw [e0, e1]
  congr 1
  unfold wrap64
  omega
theorem many_l0 {l : List Int} (hok : okBytes l = true) (i n : Nat) (hi : i + 4 * n ≤ l.length) (hl : l.length ≤ 3000) (d : Nat) : ∀ x : Nat, n - x = d → x ≤ n → Ev (fun k => stolonref05_many.l0 k l (i : Int) (n : Int) (addrsV x (l.drop i)) (x : Int)) (addrsV n (l.drop i), true) := by
  induction d with
  | zero =>
    intro x hd hx
    obtain rfl : x = n := by omega
    exact Ev.succ (fun k => by simp only [stolonref05_many.l0]; rw [if_neg (by omega)]) (Ev.const rfl)
  | succ d ih =>
    intro x hd hx
    have w1 : wrap64 (4 * (x : Int)) = ((4 * x : Nat) : Int) := by unfold wrap64; omega
    have w2 : wrap64 ((i : Int) + ((4 * x : Nat) : Int)) = ((i + 4 * x : Nat) : Int) := by unfold wrap64; omega
    have hlen := addrsV_length x (l.drop i)
    refine Ev.succ (fun k => ?_) (ih (x + 1) (by omega) (by omega))
    simp only [stolonref05_many.l0]
    rw [if_pos (by omega), w1, w2, ref_at hok (i + 4 * x) (by omega) hl, addrsV_snoc, wrap_succ x n (by omega) (by omega)]
    simp only [Option.bind_some]
    rw [if_pos (by omega), List.drop_drop]
theorem many_f {l : List Int} (hok : okBytes l = true) (i n : Nat) (hl : l.length ≤ 3000) (hi : i ≤ 3000) (hn : n ≤ 65535) : Ev (fun k => stolonref05_many.f k l (i : Int) (n : Int)) (if l.length < i + 4 * n then ([], false) else (addrsV n (l.drop i), true)) := by
  have w1 : wrap64 (4 * (n : Int)) = ((4 * n : Nat) : Int) := by unfold wrap64; omega
  have w2 : wrap64 ((i : Int) + ((4 * n : Nat) : Int)) = ((i + 4 * n : Nat) : Int) := by unfold wrap64; omega
  unfold stolonref05_many.f
  rw [w1, w2]
  by_cases h : l.length < i + 4 * n
  · rw [if_pos h]
    exact Ev.congr (fun k => if_pos (by omega)) (Ev.const rfl)
  · rw [if_neg h]
    exact Ev.congr (fun k => if_neg (by omega)) (many_l0 hok i n (by omega) hl n 0 (by omega) (by omega))
end Go.Proofs.Ytafmjhmpnlkeiaa.P

namespace Go.Proofs.Ytafmjhmpnlkeiaa.P
open Go.RowKit Go.Shelf Go.Proofs.YtafmjhmpnlkeiaaW.PrintWords Go.Proofs.YtafmjhmpnlkeiaaW.PrintLast Go.Proofs.YtafmjhmpnlkeiaaW.PrintMore
set_option linter.unusedVariables false
set_option linter.unusedSimpArgs false
/-- Records that are read, as the reference tells them. -/
def recsV (l : List Int) (recs : List S44) : Option (List S44 × List Int) → List S44 × Int × Bool
  | none => ([], 0, false)
  | some p => (recs ++ p.1, ((l.length - p.2.length : Nat) : Int), true)
theorem records_l0 {l : List Int} (hok : okBytes l = true) (h8 : 8 ≤ l.length) (hl : l.length ≤ 3000) (N : Nat) (hN : twoV ((l.drop 6).take 2) = (N : Int)) (hNb : N ≤ 65535) (d : Nat) : ∀ (x i : Nat) (recs : List S44), N - x = d → x ≤ N → i ≤ l.length → recs.length ≤ x → Ev (fun k => stolonref05_records.l0 k l recs (i : Int) (x : Int)) (recsV l recs (recsP (N - x) (l.drop i))) := by
  have h6 := ref_two hok 6 (by omega) hl
  rw [hN] at h6
  clear hN
  induction d with
  | zero =>
    intro x i recs hd hx hi hr
    refine Ev.succ (fun k => by simp only [stolonref05_records.l0]; rw [show (6 : Int) = ((6 : Nat) : Int) from rfl, h6]; simp only [Option.bind_some]; rw [if_neg (by omega)]) (Ev.const ?_)
    rw [hd]
    simp only [recsP, recsV, List.append_nil, List.length_drop]
    congr 3
    omega
  | succ d ih =>
    intro x i recs hd hx hi hr
    have W1 : Aside0 (wrap64 ((i : Int) + 8) = ((i + 8 : Nat) : Int)) := ⟨by unfold wrap64; omega⟩
    have W2 : Aside0 (wrap64 ((i : Int) + 2) = ((i + 2 : Nat) : Int)) := ⟨by unfold wrap64; omega⟩
    have W3 : Aside0 (wrap64 ((i : Int) + 4) = ((i + 4 : Nat) : Int)) := ⟨by unfold wrap64; omega⟩
    have hdl : (l.drop i).length = l.length - i := by simp
    rw [hd, recsP]
    obtain ⟨z, hz⟩ : ∃ z, twoV (((l.drop i).drop 2).take 2) = z := ⟨_, rfl⟩
    rw [hz]
    by_cases h1 : i + 8 > l.length
    · have hlt : (l.drop i).length < 8 + 4 * z.toNat := by rw [hdl]; omega
      rw [if_pos hlt]
      refine Ev.succ (g := fun _ => some (([] : List S44), 0, false)) (fun k => by simp only [stolonref05_records.l0]; rw [show (6 : Int) = ((6 : Nat) : Int) from rfl, h6]; simp only [Option.bind_some]; rw [if_pos (by omega), W1.out, if_pos (by omega)]) (Ev.const rfl)
    · have hb2 := twoV_bd (l := ((l.drop i).drop 2).take 2) (ok_take (ok_drop (ok_drop hok i) 2) 2) (by simp; omega)
      rw [hz] at hb2
      have h2 := ref_two hok (i + 2) (by omega) hl
      rw [show l.drop (i + 2) = (l.drop i).drop 2 by rw [List.drop_drop], hz] at h2
      clear hz
      obtain ⟨c, rfl⟩ : ∃ c : Nat, z = (c : Int) := ⟨z.toNat, by omega⟩
      have h4 := ref_at hok (i + 4) (by omega) hl
      rw [show l.drop (i + 4) = (l.drop i).drop 4 by rw [List.drop_drop]] at h4
      have hm := many_f hok (i + 8) c hl (by omega) (by omega)
      have h6' : stolonref05_two.f l 6 = some (N : Int) := h6
      have hxN : (x : Int) < (N : Int) := by omega
      have hn8 : ¬ (((i + 8 : Nat) : Int) > (l.length : Int)) := by omega
      refine Ev.succ (g := fun k => (stolonref05_many.f k l ((i + 8 : Nat) : Int) (c : Int)).bind fun bt => if bt.2 = true then (if 0 ≤ (i : Int) then (if (i : Int) < (l.length : Int) then ((stolonref05_at.f l (wrap64 ((i : Int) + 4))).bind fun t245 => (if recs.length < 4398046511104 then (stolonref05_records.l0 k l (recs ++ [(⟨rd l (i : Int), t245, bt.1⟩ : S44)]) (wrap64 (((i + 8 : Nat) : Int) + (wrap64 (4 * (c : Int))))) (wrap64 ((x : Int) + 1))) else none)) else none) else none) else some (([] : List S44), 0, false))
        (fun k => by
          rw [stolonref05_records.l0, h6', Option.bind_some, if_pos hxN, W1.out, if_neg hn8, W2.out, h2, Option.bind_some]) (Ev.bind hm ?_)
      rw [Int.toNat_natCast, hdl]
      by_cases h3 : l.length < i + 8 + 4 * c
      · rw [if_pos (show l.length - i < 8 + 4 * c by omega), if_pos h3]
        exact Ev.congr (fun k => if_neg (by simp)) (Ev.const rfl)
      · rw [if_neg (show ¬ l.length - i < 8 + 4 * c by omega), if_neg h3]
        have W4 : Aside0 (wrap64 (4 * (c : Int)) = ((4 * c : Nat) : Int)) := ⟨by unfold wrap64; omega⟩
        have W5 : Aside0 (wrap64 (((i + 8 : Nat) : Int) + ((4 * c : Nat) : Int)) = ((i + 8 + 4 * c : Nat) : Int)) := ⟨by unfold wrap64; omega⟩
        have a1 : N - (x + 1) = d := by omega
        have a2 : x + 1 ≤ N := by omega
        have a3 : i + 8 + 4 * c ≤ l.length := by omega
        have a4 : (recs ++ [(⟨rd l i, addrV (((l.drop i).drop 4).take 4), addrsV c (l.drop (i + 8))⟩ : S44)]).length ≤ x + 1 := by rw [List.length_append]; exact Nat.succ_le_succ hr
        have hx2 := ih (x + 1) (i + 8 + 4 * c) (recs ++ [⟨rd l i, addrV (((l.drop i).drop 4).take 4), addrsV c (l.drop (i + 8))⟩]) a1 a2 a3 a4
        have h0i : (0 : Int) ≤ (i : Int) := by omega
        have hil : (i : Int) < (l.length : Int) := by omega
        have hrl : recs.length < 4398046511104 := by omega
        have WX := Aside0.mk (wrap_succ x N (by omega) (by omega))
        refine Ev.congr (g := fun k => stolonref05_records.l0 k l (recs ++ [⟨rd l i, addrV (((l.drop i).drop 4).take 4), addrsV c (l.drop (i + 8))⟩]) ((i + 8 + 4 * c : Nat) : Int) ((x + 1 : Nat) : Int)) (fun k => ?_) (hx2.val ?_)
        · show (if true = true then (if 0 ≤ (i : Int) then (if (i : Int) < (l.length : Int) then ((stolonref05_at.f l (wrap64 ((i : Int) + 4))).bind fun t245 => (if recs.length < 4398046511104 then (stolonref05_records.l0 k l (recs ++ [(⟨rd l (i : Int), t245, addrsV c (l.drop (i + 8))⟩ : S44)]) (wrap64 (((i + 8 : Nat) : Int) + (wrap64 (4 * (c : Int))))) (wrap64 ((x : Int) + 1))) else none)) else none) else none) else some (([] : List S44), 0, false)) = _
          rw [if_pos rfl, if_pos h0i, if_pos hil, W3.out, h4, Option.bind_some, if_pos hrl, W4.out, W5.out, WX.out]
        · have hnx : N - (x + 1) = d := by omega
          have hi8 : i + (8 + 4 * c) = i + 8 + 4 * c := by omega
          rw [hnx, show rd (l.drop i) 0 = rd l (i : Int) from rd_drop l 0 i, show (l.drop i).drop (8 + 4 * c) = l.drop (i + 8 + 4 * c) by rw [List.drop_drop, hi8], show (l.drop i).drop 8 = l.drop (i + 8) from List.drop_drop]
          cases recsP d (l.drop (i + 8 + 4 * c)) with
          | none => rfl
          | some p => simp [recsV]
theorem records_f {l : List Int} (hok : okBytes l = true) (h8 : 8 ≤ l.length) (hl : l.length ≤ 3000) : Ev (fun k => stolonref05_records.f k l) (recsV l [] (recsP (twoV ((l.drop 6).take 2)).toNat (l.drop 8))) := by
  have hb2 := twoV_bd (l := (l.drop 6).take 2) (ok_take (ok_drop hok 6) 2) (by simp; omega)
  obtain ⟨N, hN⟩ : ∃ c : Nat, twoV ((l.drop 6).take 2) = (c : Int) := ⟨(twoV ((l.drop 6).take 2)).toNat, by omega⟩
  rw [hN] at hb2 ⊢
  rw [Int.toNat_natCast]
  have hb3 : N ≤ 65535 := by have := hb2.2; clear hN; omega
  have h := records_l0 hok h8 hl N hN hb3 N 0 8 [] (Nat.sub_zero N) (Nat.zero_le N) h8 (Nat.le_refl 0)
  rw [Nat.sub_zero] at h
  exact h
end Go.Proofs.Ytafmjhmpnlkeiaa.P

namespace Go.Proofs.Ytafmjhmpnlkeiaa.P
open Go.RowKit Go.Shelf Go.Proofs.YtafmjhmpnlkeiaaW.PrintWords Go.Proofs.YtafmjhmpnlkeiaaW.PrintLast Go.Proofs.YtafmjhmpnlkeiaaW.PrintMore
set_option linter.unusedVariables false
set_option linter.unusedSimpArgs false
def msgOf (m : Flat) (l7 : List Int) (l8 : List S44) : Msg := ⟨m.kind, m.ver, m.code, m.group, m.quiet, m.robust, m.every, l7, l8⟩
def tupM (m : Msg) (e : Int) : Int × Int × Int × Int × Bool × Int × Int × List Int × List S44 × Int := (m.kind, m.ver, m.code, m.group, m.quiet, m.robust, m.every, m.srcs, m.recs, e)
/-- What becomes of a message whose bytes end at e, of n. -/
def lastV (e n : Nat) (m : Msg) : Int × Int × Int × Int × Bool × Int × Int × List Int × List S44 × Int := if e = n then (if rightV m = true then tupM m 0 else noneM 2) else noneM 2
def finV (n : Nat) : Option (Flat × List Int × List S44 × List Int) → Int × Int × Int × Int × Bool × Int × Int × List Int × List S44 × Int
  | none => noneM 3
  | some (m, l7, l8, r) => lastV (n - r.length) n (msgOf m l7 l8)
def wholeV (l : List Int) : Bool := turned16 (sum16 (wordsOf l)) == 0
def decV (l : List Int) : Int × Int × Int × Int × Bool × Int × Int × List Int × List S44 × Int :=
  if l.length < 8 then noneM 3 else if wholeV l = true then (if isKind (rd l 0) = true then finV l.length (readM (rd l 0) (rd l 1) (l.drop 4)) else noneM 2) else noneM 4
theorem recsP_len (n : Nat) : ∀ (l : List Int) (p : List S44 × List Int), recsP n l = some p → p.1.length = n ∧ p.2.length ≤ l.length ∧ ∀ x ∈ p.1, x.f2.length ≤ l.length := by
  induction n with
  | zero =>
    intro l p h
    simp only [recsP, Option.some.injEq] at h
    subst h
    simp
  | succ n ih =>
    intro l p h
    rw [recsP] at h
    obtain ⟨c, hc⟩ : ∃ c, (twoV ((l.drop 2).take 2)).toNat = c := ⟨_, rfl⟩
    rw [hc] at h
    clear hc
    split at h
    · cases h
    · rename_i hlt
      obtain ⟨q, hq, rfl⟩ := Option.map_eq_some_iff.1 h
      obtain ⟨h1, h2, h3⟩ := ih _ _ hq
      rw [List.length_drop] at h2 h3
      refine ⟨by simp [h1], by show q.2.length ≤ _; omega, ?_⟩
      intro x hx
      rcases List.mem_cons.1 hx with rfl | hx
      · show (addrsV c (l.drop 8)).length ≤ _
        rw [addrsV_length]
        omega
      · have := h3 x hx
        omega
theorem readM_some {kind code : Int} {rest : List Int} {m : Flat} {l7 : List Int} {l8 : List S44} {r : List Int} (hl : rest.length ≤ 3000) (hok : okBytes rest = true) (h4 : 4 ≤ rest.length) (h : readM kind code rest = some (m, l7, l8, r)) : (msgOf m l7 l8).short ∧ r.length + 4 ≤ rest.length := by
  unfold readM at h
  split at h
  · obtain ⟨p, hp, he⟩ := Option.map_eq_some_iff.1 h
    simp only [Prod.mk.injEq] at he
    obtain ⟨rfl, rfl, rfl, rfl⟩ := he
    unfold queryP at hp
    split at hp
    · obtain rfl := Option.some.inj hp
      exact ⟨⟨by simp [msgOf], by simp [msgOf], by simp [msgOf]⟩, by simp; omega⟩
    · obtain ⟨c, hc⟩ : ∃ c, (twoV ((rest.drop 6).take 2)).toNat = c := ⟨_, rfl⟩
      rw [hc] at hp
      clear hc
      split at hp
      · cases hp
      · rename_i hlt
        obtain rfl := Option.some.inj hp
        refine ⟨⟨?_, by simp [msgOf], by simp [msgOf]⟩, by simp; omega⟩
        show (addrsV c (rest.drop 8)).length ≤ _
        rw [addrsV_length]
        omega
  · split at h
    · obtain ⟨p, hp, he⟩ := Option.map_eq_some_iff.1 h
      simp only [Prod.mk.injEq] at he
      obtain ⟨rfl, rfl, rfl, rfl⟩ := he
      unfold reportP at hp
      obtain ⟨q, hq, rfl⟩ := Option.map_eq_some_iff.1 hp
      have hb := twoV_bd (l := (rest.drop 2).take 2) (ok_take (ok_drop hok 2) 2) (by simp; omega)
      obtain ⟨h1, h2, h3⟩ := recsP_len _ _ _ hq
      obtain ⟨z, hz⟩ : ∃ z, twoV ((rest.drop 2).take 2) = z := ⟨_, rfl⟩
      rw [hz] at hb h1
      clear hz
      rw [List.length_drop] at h2 h3
      refine ⟨⟨by simp [msgOf], ?_, ?_⟩, by show q.2.length + 4 ≤ _; omega⟩
      · show (if twoV (rest.take 2) ≠ 0 then List.replicate 33 z44 else q.1).length ≤ _
        split
        · simp
        · omega
      · show ∀ x ∈ (if twoV (rest.take 2) ≠ 0 then List.replicate 33 z44 else q.1), _
        intro x hx
        split at hx
        · rw [(List.mem_replicate.1 hx).2]
          simp [z44]
        · have := h3 x hx
          omega
    · simp only [Option.some.injEq, Prod.mk.injEq] at h
      obtain ⟨rfl, rfl, rfl, rfl⟩ := h
      exact ⟨⟨by simp [msgOf], by simp [msgOf], by simp [msgOf]⟩, by simp; omega⟩
theorem dec_ev (l : List Int) (hok : okBytes l = true) (hl : l.length ≤ 3000) : Ev (fun k => igmp_Decode.f k l) (decV l) := by
  unfold igmp_Decode.f decV
  refine Ev.congr (fun k => if_pos ⟨hok, by omega⟩) ?_
  by_cases h8 : l.length < 8
  · rw [if_pos h8]
    exact Ev.congr (fun k => if_pos h8) (Ev.const rfl)
  rw [if_neg h8]
  refine Ev.congr (fun k => if_neg h8) ?_
  have hw : sum_Whole.f l = some (wholeV l) := by
    unfold sum_Whole.f sum_Of.f
    rw [if_pos ⟨hok, by omega, by omega⟩]
    rfl
  refine Ev.bind (u := wholeV l) (Ev.const hw) ?_
  clear hw
  cases hwh : wholeV l with
  | false => exact Ev.congr (fun k => if_neg (by decide)) (Ev.const rfl)
  | true =>
  rw [if_pos rfl]
  refine Ev.congr (fun k => if_pos rfl) ?_
  cases hk : isKind (rd l 0) with
  | false => exact Ev.congr (fun k => if_neg (by decide)) (Ev.const rfl)
  | true =>
  rw [if_pos rfl]
  refine Ev.congr (fun k => if_pos rfl) ?_
  cases hr : readM (rd l 0) (rd l 1) (l.drop 4) with
  | none => exact Ev.const rfl
  | some p =>
    obtain ⟨m, l7, l8, r⟩ := p
    have hd4 : (l.drop 4).length = l.length - 4 := by simp
    obtain ⟨hs, hrl⟩ := readM_some (by omega) (ok_drop hok 4) (by omega) hr
    clear hr hwh
    simp only [endM, finV, lastV]
    by_cases h0 : r = []
    · subst h0
      rw [if_pos (by simp)]
      refine Ev.congr (fun k => if_neg (by simp)) (Ev.bind (right9 (msgOf m l7 l8) hs) ?_)
      by_cases hrt : rightV (msgOf m l7 l8) = true
      · simp only [if_pos hrt]
        exact Ev.const rfl
      · simp only [if_neg hrt]
        exact Ev.const rfl
    · have h1 : 0 < r.length := List.length_pos_iff.2 h0
      rw [if_neg (by omega)]
      exact Ev.congr (fun k => if_pos h0) (Ev.const rfl)
theorem ref_j3 (l : List Int) (e : Nat) (m : Msg) (hm : m.short) : Ev (fun k => stolonref05_Decode.j3 k l (e : Int) m.kind m.ver m.code m.group m.quiet m.robust m.every m.srcs m.recs) (lastV e l.length m) := by
  unfold lastV
  refine Ev.succ (fun k => by simp only [stolonref05_Decode.j3]; rfl) ?_
  refine Ev.bind (right10 m hm) ?_
  by_cases he : e = l.length
  · rw [if_pos he]
    refine Ev.congr (fun k => if_pos (by omega)) ?_
    by_cases hr : rightV m = true
    · simp only [if_pos hr]
      exact Ev.const rfl
    · simp only [if_neg hr]
      exact Ev.const rfl
  · rw [if_neg he]
    exact Ev.congr (fun k => if_neg (by omega)) (Ev.const rfl)
/-- A plain message. -/
theorem ref_plain (l : List Int) (hok : okBytes l = true) (hl : l.length ≤ 3000) (h8 : 8 ≤ l.length) (kd code : Int) (h17 : kd ≠ 17) (h34 : kd ≠ 34) : Ev (fun k => stolonref05_Decode.j0 k l 8 kd true kd 0 code 0 false 0 0) (finV l.length (readM kd code (l.drop 4))) := by
  have hA := ref_at hok 4 (by omega) hl
  have hA' : stolonref05_at.f l 4 = some (addrV ((l.drop 4).take 4)) := hA
  have hd : (l.drop 8).length = l.length - 8 := by simp
  refine Ev.succ (g := fun k => stolonref05_Decode.j3 k l 8 kd 0 code (addrV ((l.drop 4).take 4)) false 0 0 [] []) (fun k => by rw [stolonref05_Decode.j0, if_pos rfl, hA', Option.bind_some]) ?_
  unfold readM
  rw [if_neg h17, if_neg h34]
  simp only [finV]
  rw [show (l.drop 4).drop 4 = l.drop 8 from List.drop_drop, hd, show l.length - (l.length - 8) = 8 by omega]
  exact ref_j3 l 8 (msgOf ⟨kd, 0, code, addrV ((l.drop 4).take 4), false, 0, 0⟩ [] []) ⟨by simp [msgOf], by simp [msgOf], by simp [msgOf]⟩
/-- A report of version 3. -/
theorem ref_report (l : List Int) (hok : okBytes l = true) (hl : l.length ≤ 3000) (h8 : 8 ≤ l.length) (code : Int) : Ev (fun k => stolonref05_Decode.j0 k l 8 34 false 34 0 code 0 false 0 0) (finV l.length (readM 34 code (l.drop 4))) := by
  have hT := ref_two hok 4 (by omega) hl
  have hT' : stolonref05_two.f l 4 = some (twoV ((l.drop 4).take 2)) := hT
  have hR := records_f hok h8 hl
  unfold readM
  rw [if_neg (by decide), if_pos rfl]
  unfold reportP
  rw [show (l.drop 4).drop 2 = l.drop 6 from List.drop_drop, show (l.drop 4).drop 4 = l.drop 8 from List.drop_drop]
  cases hq : recsP (twoV ((l.drop 6).take 2)).toNat (l.drop 8) with
  | none =>
    rw [hq] at hR
    refine Ev.succ (g := fun k => (stolonref05_records.f k l).bind fun bt256 => (if bt256.2.2 = true then ((stolonref05_two.f l 4).bind fun t261 => (if t261 = 0 then (stolonref05_Decode.j3 k l bt256.2.1 34 0 code 0 false 0 0 ([] : List Int) bt256.1) else (some (0, 0, 0, 0, false, 0, 0, ([] : List Int), ([] : List (S44)), 2)))) else (some (0, 0, 0, 0, false, 0, 0, ([] : List Int), ([] : List (S44)), 3)))) (fun k => by rw [stolonref05_Decode.j0, if_neg (by decide), if_pos rfl]) (Ev.bind hR ?_)
    exact Ev.congr (fun k => if_neg (by simp [recsV])) (Ev.const rfl)
  | some p =>
    have hp := recsP_len _ _ _ hq
    rw [List.length_drop] at hp
    obtain ⟨hp1, hp2, hp3⟩ := hp
    rw [hq] at hR
    have hb := twoV_bd (l := (l.drop 6).take 2) (ok_take (ok_drop hok 6) 2) (by simp; omega)
    obtain ⟨z, hz⟩ : ∃ z, twoV ((l.drop 6).take 2) = z := ⟨_, rfl⟩
    rw [hz] at hb hp1
    clear hz hq
    refine Ev.succ (g := fun k => (stolonref05_records.f k l).bind fun bt256 => (if bt256.2.2 = true then ((stolonref05_two.f l 4).bind fun t261 => (if t261 = 0 then (stolonref05_Decode.j3 k l bt256.2.1 34 0 code 0 false 0 0 ([] : List Int) bt256.1) else (some (0, 0, 0, 0, false, 0, 0, ([] : List Int), ([] : List (S44)), 2)))) else (some (0, 0, 0, 0, false, 0, 0, ([] : List Int), ([] : List (S44)), 3)))) (fun k => by rw [stolonref05_Decode.j0, if_neg (by decide), if_pos rfl]) (Ev.bind hR ?_)
    refine Ev.congr (fun k => (if_pos rfl).trans (by rw [hT', Option.bind_some])) ?_
    obtain ⟨o, ho⟩ : ∃ o, twoV ((l.drop 4).take 2) = o := ⟨_, rfl⟩
    rw [ho]
    by_cases h0 : o = 0
    · refine Ev.congr (fun k => if_pos h0) ?_
      simp only [Option.map_some, finV]
      rw [if_neg (by simp [h0])]
      refine (ref_j3 l (l.length - p.2.length) (msgOf ⟨34, 0, code, 0, false, 0, 0⟩ [] p.1) ⟨by simp [msgOf], ?_, ?_⟩)
      · show p.1.length ≤ _
        omega
      · intro x hx
        have := hp3 x hx
        omega
    · refine Ev.congr (fun k => if_neg h0) (Ev.const ?_)
      simp only [Option.map_some, finV, lastV]
      have ho2 : (if o ≠ 0 then List.replicate 33 z44 else p.1) = List.replicate 33 z44 := if_pos h0
      rw [ho2]
      have hrv : rightV (msgOf ⟨34, 0, code, 0, false, 0, 0⟩ [] (List.replicate 33 z44)) = false := by
        simp [rightV, msgOf]
      rw [hrv]
      split <;> rfl
theorem quiet_eq (x : Int) (h0 : 0 ≤ x) (h1 : x ≤ 255) : ((((Int.tdiv x 8) % 256) % 2) == 1) = (bits .and .u8 x 8 != 0) := by
  obtain ⟨n, rfl⟩ : ∃ n : Nat, x = n := ⟨x.toNat, by omega⟩
  have hn : n < 256 := by omega
  clear h0 h1
  revert hn
  revert n
  decide +kernel
theorem ref_query (l : List Int) (hok : okBytes l = true) (hl : l.length ≤ 3000) (h8 : 8 ≤ l.length) (code : Int) (hcode : rd l 1 = code) : Ev (fun k => stolonref05_Decode.j0 k l 8 17 false 17 0 code 0 false 0 0) (finV l.length (readM 17 code (l.drop 4))) := by
  have hA := ref_at hok 4 (by omega) hl
  have hA' : stolonref05_at.f l 4 = some (addrV ((l.drop 4).take 4)) := hA
  obtain ⟨a, ha⟩ : ∃ a, addrV ((l.drop 4).take 4) = a := ⟨_, rfl⟩
  have hd4 : (l.drop 4).length = l.length - 4 := by simp
  rw [ha] at hA'
  unfold readM
  rw [if_pos rfl]
  unfold queryP
  rw [ha, show ((l.drop 4).drop 6) = l.drop 10 from List.drop_drop, hd4]
  clear ha hA
  by_cases hn : l.length = 8
  · rw [if_pos (by omega)]
    refine Ev.succ (g := fun k => stolonref05_Decode.j1 k l 8 (code == 0) 17 2 code a false 0 0) (fun k => by rw [stolonref05_Decode.j0, if_neg (by decide), if_neg (by decide), if_pos rfl, hA', Option.bind_some, if_pos (by omega), if_pos (by omega), hcode]) ?_
    by_cases hc : code = 0
    · subst hc
      refine Ev.succ (g := fun k => stolonref05_Decode.j2 k l 8 17 1 0 0 false 0 0) (fun k => by rw [stolonref05_Decode.j1, if_pos (by decide)]) ?_
      refine Ev.succ (g := fun k => stolonref05_Decode.j3 k l 8 17 1 0 0 false 0 0 [] []) (fun k => by rw [stolonref05_Decode.j2, if_neg (by omega)]) ?_
      have h := ref_j3 l 8 (msgOf ⟨17, 1, 0, 0, false, 0, 0⟩ [] []) ⟨by simp [msgOf], by simp [msgOf], by simp [msgOf]⟩
      rw [hn] at h
      rw [hn]
      exact h
    · have hcb : ¬ (code == 0) = true := by simpa using hc
      refine Ev.succ (g := fun k => stolonref05_Decode.j2 k l 8 17 2 code a false 0 0) (fun k => by rw [stolonref05_Decode.j1, if_neg hcb]) ?_
      refine Ev.succ (g := fun k => stolonref05_Decode.j3 k l 8 17 2 code a false 0 0 [] []) (fun k => by rw [stolonref05_Decode.j2, if_neg (by omega)]) ?_
      have h := ref_j3 l 8 (msgOf ⟨17, 2, code, a, false, 0, 0⟩ [] []) ⟨by simp [msgOf], by simp [msgOf], by simp [msgOf]⟩
      rw [hn] at h
      rw [hn, if_neg hc, if_neg hc]
      exact h
  · rw [if_neg (by omega)]
    refine Ev.succ (g := fun k => stolonref05_Decode.j1 k l 8 false 17 2 code a false 0 0) (fun k => by rw [stolonref05_Decode.j0, if_neg (by decide), if_neg (by decide), if_pos rfl, hA', Option.bind_some, if_neg (by omega)]) ?_
    refine Ev.succ (g := fun k => stolonref05_Decode.j2 k l 8 17 2 code a false 0 0) (fun k => by rw [stolonref05_Decode.j1, if_neg (by decide)]) ?_
    by_cases h12 : l.length < 12
    · obtain ⟨z, hz⟩ : ∃ z, twoV ((l.drop 10).take 2) = z := ⟨_, rfl⟩
      rw [hz]
      clear hz
      rw [if_pos (by omega)]
      exact Ev.succ (g := fun _ => some (noneM 3)) (fun k => by rw [stolonref05_Decode.j2, if_pos (by omega), if_pos (by omega)]; rfl) (Ev.const rfl)
    · have hT := ref_two hok 10 (by omega) hl
      have hT' : stolonref05_two.f l 10 = some (twoV ((l.drop 10).take 2)) := hT
      have hb := twoV_bd (l := (l.drop 10).take 2) (ok_take (ok_drop hok 10) 2) (by simp; omega)
      clear hT
      obtain ⟨z, hz⟩ : ∃ z, twoV ((l.drop 10).take 2) = z := ⟨_, rfl⟩
      rw [hz] at hT' hb ⊢
      clear hz
      obtain ⟨N, rfl⟩ : ∃ c : Nat, z = (c : Int) := ⟨z.toNat, by omega⟩
      have hM := many_f hok 12 N hl (by omega) (by omega)
      have e8 : (l.drop 4).drop 8 = l.drop 12 := List.drop_drop
      have r8 : rd (l.drop 4) 4 = rd l 8 := rd_drop l 4 4
      have r9 : rd (l.drop 4) 5 = rd l 9 := rd_drop l 5 4
      have b8 : 0 ≤ rd l 8 ∧ rd l 8 ≤ 255 := ok_get hok 8
      have hl8 : (8 : Int) < (l.length : Int) := by clear r8 r9 b8; omega
      have hl9 : (9 : Int) < (l.length : Int) := by clear r8 r9 b8; omega
      have hg8 : (l.length : Int) > 8 := by clear r8 r9 b8; omega
      have hg12 : ¬ (l.length : Int) < 12 := by clear r8 r9 b8; omega
      rw [Int.toNat_natCast, e8, r8, r9]
      have hq := quiet_eq (rd l 8) b8.1 b8.2
      have hm8 : Int.tmod (rd l 8) 8 = rd l 8 % 8 := Int.tmod_eq_emod_of_nonneg b8.1
      obtain ⟨x8, hx8⟩ : ∃ x8, rd l 8 = x8 := ⟨_, rfl⟩
      obtain ⟨x9, hx9⟩ : ∃ x9, rd l 9 = x9 := ⟨_, rfl⟩
      rw [hx8] at hq hm8
      refine Ev.succ (g := fun k => (stolonref05_many.f k l 12 (N : Int)).bind fun bt265 => (if bt265.2 = true then (stolonref05_Decode.j3 k l (wrap64 (12 + (wrap64 (4 * (bt265.1.length : Int))))) 17 3 code a (bits .and .u8 x8 8 != 0) (x8 % 8) x9 bt265.1 ([] : List S44)) else (some (0, 0, 0, 0, false, 0, 0, ([] : List Int), ([] : List (S44)), 3))))
        (fun k => by rw [stolonref05_Decode.j2, if_pos hg8, if_neg hg12, hT', Option.bind_some]; simp only [if_pos hl8, if_pos hl9, hx8, hx9, hq, hm8]) (Ev.bind hM ?_)
      rw [hx8, hx9]
      clear hq hm8 hx8 hx9 r8 r9 b8
      by_cases hN : l.length < 12 + 4 * N
      · rw [if_pos hN, if_pos (by omega)]
        exact Ev.congr (fun k => if_neg (by decide)) (Ev.const rfl)
      · rw [if_neg hN, if_neg (by omega)]
        refine Ev.congr (fun k => if_pos rfl) ?_
        have hlen := addrsV_length N (l.drop 12)
        have W1 : wrap64 (4 * (((addrsV N (l.drop 12)).length : Nat) : Int)) = ((4 * N : Nat) : Int) := by rw [hlen]; unfold wrap64; omega
        have W2 : wrap64 (12 + ((4 * N : Nat) : Int)) = ((12 + 4 * N : Nat) : Int) := by clear W1; unfold wrap64; omega
        simp only [W1, W2, Option.map_some, finV]
        have he : l.length - ((l.drop 4).drop (8 + 4 * N)).length = 12 + 4 * N := by clear W1 W2; rw [List.length_drop, List.length_drop]; omega
        rw [he]
        refine ref_j3 l (12 + 4 * N) (msgOf ⟨17, 3, code, a, (bits .and .u8 x8 8 != 0), x8 % 8, x9⟩ (addrsV N (l.drop 12)) []) ⟨?_, by simp [msgOf], by simp [msgOf]⟩
        show (addrsV N (l.drop 12)).length ≤ _
        rw [hlen]
        clear W1 W2
        omega
theorem ref_ev (l : List Int) (hok : okBytes l = true) (hl : l.length ≤ 3000) : Ev (fun k => stolonref05_Decode.f k l) (decV l) := by
  unfold stolonref05_Decode.f decV
  by_cases h8 : l.length < 8
  · rw [if_pos h8]
    exact Ev.congr (fun k => if_pos (by omega)) (Ev.const rfl)
  rw [if_neg h8]
  refine Ev.congr (fun k => if_neg (by omega)) ?_
  refine Ev.bind (of_f l (bytesOk_of hok) (by omega)) ?_
  have hwd : wholeV l = (turned16 (sum16 (wordsOf l)) == 0) := rfl
  cases hwh : wholeV l with
  | false =>
    rw [hwh] at hwd
    have hne : ¬ turned16 (sum16 (wordsOf l)) = 0 := by
      intro e
      rw [e] at hwd
      exact absurd hwd (by decide)
    exact Ev.congr (fun k => if_neg hne) (Ev.const rfl)
  | true =>
  rw [hwh] at hwd
  have heq : turned16 (sum16 (wordsOf l)) = 0 := by simpa using hwd.symm
  refine Ev.congr (fun k => if_pos heq) ?_
  clear heq hwd hwh
  rw [if_pos rfl]
  have hp0 : (0 : Int) < (l.length : Int) := by omega
  have hp1 : (1 : Int) < (l.length : Int) := by omega
  refine Ev.congr (fun k => (if_pos hp0).trans (if_pos hp1)) ?_
  obtain ⟨kd, hkd⟩ : ∃ kd, rd l 0 = kd := ⟨_, rfl⟩
  obtain ⟨code, hcd⟩ : ∃ code, rd l 1 = code := ⟨_, rfl⟩
  rw [hkd, hcd]
  by_cases k18 : kd = 18
  · subst k18
    exact Ev.congr (fun k => if_pos rfl) (ref_plain l hok hl (by omega) 18 code (by decide) (by decide))
  refine Ev.congr (fun k => if_neg k18) ?_
  by_cases k22 : kd = 22
  · subst k22
    exact Ev.congr (fun k => if_pos rfl) (ref_plain l hok hl (by omega) 22 code (by decide) (by decide))
  refine Ev.congr (fun k => if_neg k22) ?_
  by_cases k23 : kd = 23
  · subst k23
    exact ref_plain l hok hl (by omega) 23 code (by decide) (by decide)
  have hb23 : (kd == 23) = false := by simpa using k23
  rw [hb23]
  by_cases k34 : kd = 34
  · subst k34
    exact ref_report l hok hl (by omega) code
  by_cases k17 : kd = 17
  · subst k17
    exact ref_query l hok hl (by omega) code hcd
  have hik : isKind kd = false := by simp [isKind, k17, k18, k22, k23, k34]
  rw [hik]
  exact Ev.succ (g := fun _ => some (noneM 2)) (fun k => by rw [stolonref05_Decode.j0, if_neg (by decide), if_neg k34, if_neg k17]; rfl) (Ev.const rfl)
end Go.Proofs.Ytafmjhmpnlkeiaa.P

namespace Go.Proofs.Ytafmjhmpnlkeiaa.P
open Go.RowKit Go.Proofs.YtafmjhmpnlkeiaaW.PrintWords Go.Proofs.YtafmjhmpnlkeiaaW.PrintLast Go.Proofs.YtafmjhmpnlkeiaaW.PrintMore
attribute [local go_sem] max2_int min2_int max_two min_two max_three min_three max_four min_four   -- for this text's walks alone
set_option linter.unusedVariables false
set_option linter.unusedSimpArgs false
/-! ### stolonlaw05_shown: function 5 -/
def stolonlaw05_shown.f (k : Nat)  : Option (Bool) := (igmp_Encode.f k 22 0 0 4009820675 false 0 0 ([] : List Int) ([] : List (S44))).bind fun bt128 => ((igmp_Decode.f k bt128.1).bind fun bt132 => (if bt128.2 = 0 then ((stolonref01_Same.f k bt128.1 (([22, 0, 248, 250, 239, 1, 2, 3] : List Int))).bind fun t150 => (if t150 = true then (if bt132.2.2.2.2.2.2.2.2.2 = 0 then (if bt132.1 = 22 then (if bt132.2.2.2.1 = 4009820675 then ((igmp_Right.f k bt132.1 bt132.2.1 bt132.2.2.1 bt132.2.2.2.1 bt132.2.2.2.2.1 bt132.2.2.2.2.2.1 bt132.2.2.2.2.2.2.1 bt132.2.2.2.2.2.2.2.1 bt132.2.2.2.2.2.2.2.2.1).bind fun t151 => (some t151)) else (some false)) else (some false)) else (some false)) else (some false))) else (some false)))
theorem stolonlaw05_shown.mono : ∀ k, LeO (stolonlaw05_shown.f k ) (stolonlaw05_shown.f (k + 1) ) := by
  intro  k
  unfold stolonlaw05_shown.f
  repeat' first
      | (with_reducible exact igmp_Decode.mono _ _)
      | (with_reducible exact igmp_Encode.mono _ _ _ _ _ _ _ _ _ _)
      | (with_reducible exact igmp_Right.mono _ _ _ _ _ _ _ _ _ _)
      | (with_reducible exact stolonref01_Same.mono _ _ _)
      | (with_reducible exact LeO.refl _)
      | (with_reducible exact LeO.none _)
      | (with_reducible refine LeO.ite ?_ ?_)
      | (with_reducible refine LeO.bind ?_ (fun _ => ?_))
      | exact igmp_Decode.mono _ _
      | exact igmp_Encode.mono _ _ _ _ _ _ _ _ _ _
      | exact igmp_Right.mono _ _ _ _ _ _ _ _ _ _
      | exact stolonref01_Same.mono _ _ _
      | exact LeO.none _
      | refine LeO.ite ?_ ?_
      | refine LeO.bind ?_ (fun _ => ?_)
theorem shown_ex : stolonlaw05_shown.f 20 = some true := by kernel_rfl
theorem shown_up (d k : Nat) (r : Bool) (h : stolonlaw05_shown.f k = some r) : stolonlaw05_shown.f (k + d) = some r := by
  induction d with
  | zero => exact h
  | succ d ih => exact stolonlaw05_shown.mono _ _ ih
theorem shown_true (k : Nat) (r : Bool) (h : stolonlaw05_shown.f k = some r) : r = true := by
  have h1 := shown_up 20 k r h
  have h2 := shown_up k 20 true shown_ex
  rw [Nat.add_comm] at h2
  exact Option.some.inj (h1.symm.trans h2)
set_option maxHeartbeats 8000000 in
set_option maxRecDepth 100000 in
theorem stolonlaw05_shown.calls (k : Nat)  (r : Bool) (w : World) (h : stolonlaw05_shown.f k  = some r) :
    Calls Try.prog 5 #[] w fun e w' => e = .returned (.bool r) ∧ Below w.heap.size w w' := by
  have HRT := Aside0.mk (shown_true k r h)
  have hu27 := Try.underlying27
  have HB := Aside0.mk (Below.refl w.heap.size w)
  have H : ((igmp_Encode.f k 22 0 0 4009820675 false 0 0 ([] : List Int) ([] : List (S44))).bind fun bt128 => ((igmp_Decode.f k bt128.1).bind fun bt132 => (if bt128.2 = 0 then ((stolonref01_Same.f k bt128.1 (([22, 0, 248, 250, 239, 1, 2, 3] : List Int))).bind fun t150 => (if t150 = true then (if bt132.2.2.2.2.2.2.2.2.2 = 0 then (if bt132.1 = 22 then (if bt132.2.2.2.1 = 4009820675 then ((igmp_Right.f k bt132.1 bt132.2.1 bt132.2.2.1 bt132.2.2.2.1 bt132.2.2.2.2.1 bt132.2.2.2.2.2.1 bt132.2.2.2.2.2.2.1 bt132.2.2.2.2.2.2.2.1 bt132.2.2.2.2.2.2.2.2.1).bind fun t151 => (some t151)) else (some false)) else (some false)) else (some false)) else (some false))) else (some false)))) = some r := h
  clear h
  replace H := Option.bind_eq_some_iff.mp H
  obtain ⟨⟨t128, t131⟩, A10, H⟩ := H
  replace H : ((igmp_Decode.f k t128).bind fun bt132 => (if t131 = 0 then ((stolonref01_Same.f k t128 (([22, 0, 248, 250, 239, 1, 2, 3] : List Int))).bind fun t150 => (if t150 = true then (if bt132.2.2.2.2.2.2.2.2.2 = 0 then (if bt132.1 = 22 then (if bt132.2.2.2.1 = 4009820675 then ((igmp_Right.f k bt132.1 bt132.2.1 bt132.2.2.1 bt132.2.2.2.1 bt132.2.2.2.2.1 bt132.2.2.2.2.2.1 bt132.2.2.2.2.2.2.1 bt132.2.2.2.2.2.2.2.1 bt132.2.2.2.2.2.2.2.2.1).bind fun t151 => (some t151)) else (some false)) else (some false)) else (some false)) else (some false))) else (some false))) = some r := H
  have A1 := Aside0.mk A10
  clear A10
  replace H := Option.bind_eq_some_iff.mp H
  obtain ⟨⟨t132, t133, t134, t135, t136, t137, t138, t139, t142, t145⟩, A20, H⟩ := H
  replace H : (if t131 = 0 then ((stolonref01_Same.f k t128 (([22, 0, 248, 250, 239, 1, 2, 3] : List Int))).bind fun t150 => (if t150 = true then (if t145 = 0 then (if t132 = 22 then (if t135 = 4009820675 then ((igmp_Right.f k t132 t133 t134 t135 t136 t137 t138 t139 t142).bind fun t151 => (some t151)) else (some false)) else (some false)) else (some false)) else (some false))) else (some false)) = some r := H
  have A2 := Aside0.mk A20
  clear A20
  by_cases c3 : t131 = 0
  · rw [if_pos c3] at H
    have c3b0 : (t131 == 0) = true := beq_iff_eq.mpr c3
    have c3b1 : (t131 != 0) = false := bne_eq_false_iff_eq.mpr c3
    clear c3
    obtain ⟨y147, hy147⟩ : ∃ y_ : List Int, y_ = (([22, 0, 248, 250, 239, 1, 2, 3] : List Int)) := ⟨_, rfl⟩
    replace H : ((stolonref01_Same.f k t128 y147).bind fun t150 => (if t150 = true then (if t145 = 0 then (if t132 = 22 then (if t135 = 4009820675 then ((igmp_Right.f k t132 t133 t134 t135 t136 t137 t138 t139 t142).bind fun t151 => (some t151)) else (some false)) else (some false)) else (some false)) else (some false))) = some r := by first | (rw [hy147]; with_reducible exact H) | (have H2_ := (Option.bind_some _ _).symm.trans H; rw [hy147]; with_reducible exact H2_) | (have H2_ := (Option.bind_some _ _).symm.trans H; with_reducible exact H2_) | with_reducible exact H | (rw [hy147]; exact H) | exact H
    have Ny147 := Aside0.mk hy147
    clear hy147
    replace H := Option.bind_eq_some_iff.mp H
    obtain ⟨t150, A40, H⟩ := H
    replace H : (if t150 = true then (if t145 = 0 then (if t132 = 22 then (if t135 = 4009820675 then ((igmp_Right.f k t132 t133 t134 t135 t136 t137 t138 t139 t142).bind fun t151 => (some t151)) else (some false)) else (some false)) else (some false)) else (some false)) = some r := H
    have A4 := Aside0.mk A40
    clear A40
    by_cases c5 : t150 = true
    · subst c5
      have H1 : (if t145 = 0 then (if t132 = 22 then (if t135 = 4009820675 then ((igmp_Right.f k t132 t133 t134 t135 t136 t137 t138 t139 t142).bind fun t151 => (some t151)) else (some false)) else (some false)) else (some false)) = some r := by rw [if_pos rfl] at H; exact H
      clear H
      have H := H1
      clear H1
      by_cases c6 : t145 = 0
      · rw [if_pos c6] at H
        have c6b0 : (t145 == 0) = true := beq_iff_eq.mpr c6
        have c6b1 : (t145 != 0) = false := bne_eq_false_iff_eq.mpr c6
        clear c6
        by_cases c7 : t132 = 22
        · rw [if_pos c7] at H
          have c7b0 : (t132 == 22) = true := beq_iff_eq.mpr c7
          have c7b1 : (t132 != 22) = false := bne_eq_false_iff_eq.mpr c7
          clear c7
          by_cases c8 : t135 = 4009820675
          · rw [if_pos c8] at H
            have c8b0 : (t135 == 4009820675) = true := beq_iff_eq.mpr c8
            have c8b1 : (t135 != 4009820675) = false := bne_eq_false_iff_eq.mpr c8
            clear c8
            replace H := Option.bind_eq_some_iff.mp H
            obtain ⟨t151, A90, H⟩ := H
            replace H : (some t151) = some r := H
            have A9 := Aside0.mk A90
            clear A90
            obtain rfl := Option.some.inj H
            go_enter Try.func5, Try.ntmps5
            go_wp2_with (first | ((with_reducible refine gate_callee (f := 7) rfl ?_); refine goesL_ (some 7) rfl rfl Try.func7 (by kernel_rfl) rfl #[.agg #[.int .u8 22, .int .i64 0, .int .u8 0, .int .u32 4009820675, .bool false, .int .u8 0, .int .u8 0, .slice none 0 0, .slice none 0 0]] rfl (by (try simp only [List.map_toArray, List.map_cons, List.map_nil]); first | done | rfl | (simp only [List.length_drop, List.length_take]; rfl)) ?_; (refine (igmp_Encode.calls k 22 0 0 4009820675 false 0 0 _ _ ([] : List Int) _ _ ([] : List (S44)) t128 t131 _ ?side1 ?side2 ?side3 ?side4 A1.out).mono ?_); (case side1 => exact Kd.C_nil _ _); (case side2 => exact Nat.le_refl _); (case side3 => exact Kd.C_nil _ _); (case side4 => exact Nat.le_refl _); rintro e w10 ⟨v129, rfl, ho0, hb⟩; refine ⟨_, rfl, ?_⟩; have n0_ := Aside0.mk (Kd.R_lower ho0 (below_size (by repeat (first | (with_reducible first | exact HB.out | apply below_alloc | apply pw_below_drewN | apply below_drew1) | exact HB.out)))); have n1_ := Aside0.mk (below_step (by repeat (first | (with_reducible first | exact HB.out | apply below_alloc | apply pw_below_drewN | apply below_drew1) | exact HB.out)) hb); clear HB; have HO130 := n0_; have HB := n1_; clear n0_ n1_; (try clear hb); (try clear hb2); (try clear hk); (try clear hi); (try clear ho0); obtain ⟨Ao11, co11, eo11⟩ := Kd.R_slice HO130.out; subst eo11) | ((with_reducible refine gate_callee (f := 14) rfl ?_); refine goesL_ (some 12) rfl rfl Try.func14 (by kernel_rfl) rfl #[.slice Ao11 t128.length co11] rfl (by (try simp only [List.map_toArray, List.map_cons, List.map_nil]); first | done | rfl | (simp only [List.length_drop, List.length_take]; rfl)) ?_; (with_reducible refine (igmp_Decode.calls k _ _ t128 t132 t133 t134 t135 t136 t137 t138 t139 t142 t145 _ ?side1 ?side2 A2.out).mono ?_); (case side1 => repeat (first | exact (Kd.R_reads' HO130.out).2.2 | (with_reducible refine Kd.C_alloc ?_ _) | (with_reducible refine Kd.C_drewN ?_ _) | (with_reducible refine Kd.C_drew ?_))); (case side2 => exact (Kd.R_reads' HO130.out).2.1); rintro e w12 ⟨v140, v143, rfl, ho0, ho1, hb⟩; refine ⟨_, rfl, ?_⟩; have n0_ := Aside0.mk (Kd.R_below (by (with_reducible repeat (first | apply Kd.R_alloc | apply Kd.R_drewN | apply Kd.R_drew)); exact HO130.out) hb); have n1_ := Aside0.mk (Kd.R_lower ho0 (below_size (by repeat (first | (with_reducible first | exact HB.out | apply below_alloc | apply pw_below_drewN | apply below_drew1) | exact HB.out)))); have n2_ := Aside0.mk (Kd.S_lower ho1 (below_size (by repeat (first | (with_reducible first | exact HB.out | apply below_alloc | apply pw_below_drewN | apply below_drew1) | exact HB.out)))); have n3_ := Aside0.mk (below_step (by repeat (first | (with_reducible first | exact HB.out | apply below_alloc | apply pw_below_drewN | apply below_drew1) | exact HB.out)) hb); clear HO130; clear HB; have HO130 := n0_; have HO141 := n1_; have HO144 := n2_; have HB := n3_; clear n0_ n1_ n2_ n3_; (try clear hb); (try clear hb2); (try clear hk); (try clear hi); (try clear ho0); (try clear ho1)) | ((with_reducible refine gate_dst (N := 3) rfl ?_); (try (refine gate_guard (by rfl) ?_; dsimp only)); refine box_event ?hg (N := 3) ?hd (cs := #[.int .u8 0, .int .i64 0, .int .u8 0, .int .u32 0, .bool false, .int .u8 0, .int .u8 0, .slice none 0 0, .slice none 0 0]) (t := 27) ?hr ?_; (case hd => rfl); (case hg => rfl); (case hr => first | (go_simp; done) | (go_simp; rfl)); intro gb146 hg w13 hbox hb; have n0_ := Aside0.mk (Kd.R_below (by (with_reducible repeat (first | apply Kd.R_alloc | apply Kd.R_drewN | apply Kd.R_drew)); exact HO130.out) hb); have n1_ := Aside0.mk (Kd.R_below (by (with_reducible repeat (first | apply Kd.R_alloc | apply Kd.R_drewN | apply Kd.R_drew)); exact HO141.out) hb); have n2_ := Aside0.mk (Kd.S_below (by (with_reducible repeat (first | apply Kd.S_alloc | apply Kd.S_drewN | apply Kd.S_drew)); exact HO144.out) hb); have n3_ := Aside0.mk (below_step (by repeat (first | (with_reducible first | exact HB.out | apply below_alloc | apply pw_below_drewN | apply below_drew1) | exact HB.out)) hb); have n4_ := Aside0.mk (hbox); have n5_ := Aside0.mk ((by rw [hg]; exact (below_size (by repeat (first | (with_reducible first | exact HB.out | apply below_alloc | apply pw_below_drewN | apply below_drew1) | exact HB.out))) : w.heap.size ≤ gb146)); have n6_ := Aside0.mk ((by rw [hg]; exact (below_size (by repeat (first | (with_reducible first | exact HB.out | apply below_alloc | apply pw_below_drewN | apply below_drew1) | exact HB.out))) : w.heap.size ≤ gb146)); clear HO130; clear HO141; clear HO144; clear HB; have HO130 := n0_; have HO141 := n1_; have HO144 := n2_; have HB := n3_; have BK146 := n4_; have GW146 := n5_; have GE146 := n6_; clear n0_ n1_ n2_ n3_ n4_ n5_ n6_; clear hb hbox hg; obtain ⟨hcz14_0, hcz14_1, hcz14_2, hcz14_3, hcz14_4, hcz14_5, hcz14_6, hcz14_7, hcz14_8, hfz14_0, hfz14_1, hfz14_2, hfz14_3, hfz14_4, hfz14_5, hfz14_6, hfz14_7, hfz14_8⟩ := blk9 BK146.out; obtain ⟨Ao15, co15, eo15⟩ := Kd.R_slice HO141.out; subst eo15; obtain ⟨Ao16, co16, eo16⟩ := Kd.S_slice HO144.out; subst eo16) | ((with_reducible refine gate_dst (N := 19) rfl ?_); (try (refine gate_guard (by rfl) ?_; dsimp only)); refine Kd.R_lit (Kd.int .u8) _ 5 ?hg (N := 19) ?hd (xs := ([22, 0, 248, 250, 239, 1, 2, 3] : List Int)) (inner := [.int .u8 22, .int .u8 0, .int .u8 248, .int .u8 250, .int .u8 239, .int .u8 1, .int .u8 2, .int .u8 3]) (ok := fun _ => True) (okp := fun _ => True) ?hr ?hp (fun _ hk => hk) trivial (Below.refl _ _) (Nat.le_refl _) (by simp) ?_; (case hd => rfl); (case hg => rfl); (case hr => first | (go_simp; done) | (go_simp; rfl)); (case hp => exact (Reps.one (show Kd.M (Kd.int .u8) _ _ _ 22 [.int .u8 22] from rfl) (Reps.one (show Kd.M (Kd.int .u8) _ _ _ 0 [.int .u8 0] from rfl) (Reps.one (show Kd.M (Kd.int .u8) _ _ _ 248 [.int .u8 248] from rfl) (Reps.one (show Kd.M (Kd.int .u8) _ _ _ 250 [.int .u8 250] from rfl) (Reps.one (show Kd.M (Kd.int .u8) _ _ _ 239 [.int .u8 239] from rfl) (Reps.one (show Kd.M (Kd.int .u8) _ _ _ 1 [.int .u8 1] from rfl) (Reps.one (show Kd.M (Kd.int .u8) _ _ _ 2 [.int .u8 2] from rfl) (Reps.one (show Kd.M (Kd.int .u8) _ _ _ 3 [.int .u8 3] from rfl) (Reps.none _ _)))))))))); intro v148 w17 ho18 hb hg_ hnew_; clear hg_ hnew_; (first | rw [← Ny147.out] at ho18 | (simp only [Int.reduceToNat] at ho18; rw [← Ny147.out] at ho18)); have n0_ := Aside0.mk (Kd.R_elder' (by (with_reducible repeat (first | apply Kd.R_alloc | apply Kd.R_drewN | apply Kd.R_drew)); exact (Kd.R_mono (Kd.R_far (p := ⟨gb146, 8, none⟩) (Kd.R_far (p := ⟨gb146, 7, none⟩) (Kd.R_far (p := ⟨gb146, 6, none⟩) (Kd.R_far (p := ⟨gb146, 5, none⟩) (Kd.R_far (p := ⟨gb146, 4, none⟩) (Kd.R_far (p := ⟨gb146, 3, none⟩) (Kd.R_far (p := ⟨gb146, 2, none⟩) (Kd.R_far (p := ⟨gb146, 1, none⟩) (Kd.R_far (p := ⟨gb146, 0, none⟩) (Kd.R_types HO130.out BK146.out (by decide)) (fun _ hk => hk.2) (.int .u8 t132)) (fun _ hk => hk.2) (.int .i64 t133)) (fun _ hk => hk.2) (.int .u8 t134)) (fun _ hk => hk.2) (.int .u32 t135)) (fun _ hk => hk.2) (.bool t136)) (fun _ hk => hk.2) (.int .u8 t137)) (fun _ hk => hk.2) (.int .u8 t138)) (fun _ hk => hk.2) (.slice Ao15 t139.length co15)) (fun _ hk => hk.2) (.slice Ao16 t142.length co16)) (fun _ h_ => h_.1))) (Kd.R_base ho18) hb); have n1_ := Aside0.mk (Kd.R_below (by (with_reducible repeat (first | apply Kd.R_alloc | apply Kd.R_drewN | apply Kd.R_drew)); exact (Kd.R_mono (Kd.R_far (p := ⟨gb146, 8, none⟩) (Kd.R_far (p := ⟨gb146, 7, none⟩) (Kd.R_far (p := ⟨gb146, 6, none⟩) (Kd.R_far (p := ⟨gb146, 5, none⟩) (Kd.R_far (p := ⟨gb146, 4, none⟩) (Kd.R_far (p := ⟨gb146, 3, none⟩) (Kd.R_far (p := ⟨gb146, 2, none⟩) (Kd.R_far (p := ⟨gb146, 1, none⟩) (Kd.R_far (p := ⟨gb146, 0, none⟩) (Kd.R_types HO141.out BK146.out (by decide)) (fun _ hk => hk.2) (.int .u8 t132)) (fun _ hk => hk.2) (.int .i64 t133)) (fun _ hk => hk.2) (.int .u8 t134)) (fun _ hk => hk.2) (.int .u32 t135)) (fun _ hk => hk.2) (.bool t136)) (fun _ hk => hk.2) (.int .u8 t137)) (fun _ hk => hk.2) (.int .u8 t138)) (fun _ hk => hk.2) (.slice Ao15 t139.length co15)) (fun _ hk => hk.2) (.slice Ao16 t142.length co16)) (fun _ h_ => h_.1))) hb); have n2_ := Aside0.mk (Kd.S_below (by (with_reducible repeat (first | apply Kd.S_alloc | apply Kd.S_drewN | apply Kd.S_drew)); exact (Kd.S_mono (Kd.S_far (p := ⟨gb146, 8, none⟩) (Kd.S_far (p := ⟨gb146, 7, none⟩) (Kd.S_far (p := ⟨gb146, 6, none⟩) (Kd.S_far (p := ⟨gb146, 5, none⟩) (Kd.S_far (p := ⟨gb146, 4, none⟩) (Kd.S_far (p := ⟨gb146, 3, none⟩) (Kd.S_far (p := ⟨gb146, 2, none⟩) (Kd.S_far (p := ⟨gb146, 1, none⟩) (Kd.S_far (p := ⟨gb146, 0, none⟩) (Kd.S_types HO144.out BK146.out (by decide)) (fun _ hk => hk.2) (.int .u8 t132)) (fun _ hk => hk.2) (.int .i64 t133)) (fun _ hk => hk.2) (.int .u8 t134)) (fun _ hk => hk.2) (.int .u32 t135)) (fun _ hk => hk.2) (.bool t136)) (fun _ hk => hk.2) (.int .u8 t137)) (fun _ hk => hk.2) (.int .u8 t138)) (fun _ hk => hk.2) (.slice Ao15 t139.length co15)) (fun _ hk => hk.2) (.slice Ao16 t142.length co16)) (fun _ h_ => h_.1))) hb); have n3_ := Aside0.mk (Kd.R_lower (Kd.R_new' ho18 (Kd.R_lt (by (with_reducible repeat (first | apply Kd.R_alloc | apply Kd.R_drewN | apply Kd.R_drew)); exact (Kd.R_mono (Kd.R_far (p := ⟨gb146, 8, none⟩) (Kd.R_far (p := ⟨gb146, 7, none⟩) (Kd.R_far (p := ⟨gb146, 6, none⟩) (Kd.R_far (p := ⟨gb146, 5, none⟩) (Kd.R_far (p := ⟨gb146, 4, none⟩) (Kd.R_far (p := ⟨gb146, 3, none⟩) (Kd.R_far (p := ⟨gb146, 2, none⟩) (Kd.R_far (p := ⟨gb146, 1, none⟩) (Kd.R_far (p := ⟨gb146, 0, none⟩) (Kd.R_types HO130.out BK146.out (by decide)) (fun _ hk => hk.2) (.int .u8 t132)) (fun _ hk => hk.2) (.int .i64 t133)) (fun _ hk => hk.2) (.int .u8 t134)) (fun _ hk => hk.2) (.int .u32 t135)) (fun _ hk => hk.2) (.bool t136)) (fun _ hk => hk.2) (.int .u8 t137)) (fun _ hk => hk.2) (.int .u8 t138)) (fun _ hk => hk.2) (.slice Ao15 t139.length co15)) (fun _ hk => hk.2) (.slice Ao16 t142.length co16)) (fun _ h_ => h_.1))))) (below_size (by repeat (first | (with_reducible first | exact HB.out | apply below_alloc | apply pw_below_drewN | apply below_drew1 | refine below_set ?_ GE146.out) | exact HB.out)))); have n4_ := Aside0.mk (blk_below (g := gb146) (o := .cells #[.int .u8 t132, .int .i64 t133, .int .u8 t134, .int .u32 t135, .bool t136, .int .u8 t137, .int .u8 t138, .slice Ao15 t139.length co15, .slice Ao16 t142.length co16] 27 (0, 0)) (by (with_reducible repeat (first | refine blk_drewN ?_ _ | refine blk_drew ?_ | refine blk_alloc ?_ _)); refine blk_put (cs := #[.int .u8 t132, .int .i64 t133, .int .u8 t134, .int .u32 t135, .bool t136, .int .u8 t137, .int .u8 t138, .slice Ao15 t139.length co15, .slice none 0 0]) ?_ 8 _ rfl; (with_reducible repeat (first | refine blk_drewN ?_ _ | refine blk_drew ?_ | refine blk_alloc ?_ _)); refine blk_put (cs := #[.int .u8 t132, .int .i64 t133, .int .u8 t134, .int .u32 t135, .bool t136, .int .u8 t137, .int .u8 t138, .slice none 0 0, .slice none 0 0]) ?_ 7 _ rfl; (with_reducible repeat (first | refine blk_drewN ?_ _ | refine blk_drew ?_ | refine blk_alloc ?_ _)); refine blk_put (cs := #[.int .u8 t132, .int .i64 t133, .int .u8 t134, .int .u32 t135, .bool t136, .int .u8 t137, .int .u8 0, .slice none 0 0, .slice none 0 0]) ?_ 6 _ rfl; (with_reducible repeat (first | refine blk_drewN ?_ _ | refine blk_drew ?_ | refine blk_alloc ?_ _)); refine blk_put (cs := #[.int .u8 t132, .int .i64 t133, .int .u8 t134, .int .u32 t135, .bool t136, .int .u8 0, .int .u8 0, .slice none 0 0, .slice none 0 0]) ?_ 5 _ rfl; (with_reducible repeat (first | refine blk_drewN ?_ _ | refine blk_drew ?_ | refine blk_alloc ?_ _)); refine blk_put (cs := #[.int .u8 t132, .int .i64 t133, .int .u8 t134, .int .u32 t135, .bool false, .int .u8 0, .int .u8 0, .slice none 0 0, .slice none 0 0]) ?_ 4 _ rfl; (with_reducible repeat (first | refine blk_drewN ?_ _ | refine blk_drew ?_ | refine blk_alloc ?_ _)); refine blk_put (cs := #[.int .u8 t132, .int .i64 t133, .int .u8 t134, .int .u32 0, .bool false, .int .u8 0, .int .u8 0, .slice none 0 0, .slice none 0 0]) ?_ 3 _ rfl; (with_reducible repeat (first | refine blk_drewN ?_ _ | refine blk_drew ?_ | refine blk_alloc ?_ _)); refine blk_put (cs := #[.int .u8 t132, .int .i64 t133, .int .u8 0, .int .u32 0, .bool false, .int .u8 0, .int .u8 0, .slice none 0 0, .slice none 0 0]) ?_ 2 _ rfl; (with_reducible repeat (first | refine blk_drewN ?_ _ | refine blk_drew ?_ | refine blk_alloc ?_ _)); refine blk_put (cs := #[.int .u8 t132, .int .i64 0, .int .u8 0, .int .u32 0, .bool false, .int .u8 0, .int .u8 0, .slice none 0 0, .slice none 0 0]) ?_ 1 _ rfl; (with_reducible repeat (first | refine blk_drewN ?_ _ | refine blk_drew ?_ | refine blk_alloc ?_ _)); refine blk_put (cs := #[.int .u8 0, .int .i64 0, .int .u8 0, .int .u32 0, .bool false, .int .u8 0, .int .u8 0, .slice none 0 0, .slice none 0 0]) ?_ 0 _ rfl; (with_reducible repeat (first | refine blk_drewN ?_ _ | refine blk_drew ?_ | refine blk_alloc ?_ _)); exact BK146.out) hb); have n5_ := Aside0.mk (below_step (by repeat (first | (with_reducible first | exact HB.out | apply below_alloc | apply pw_below_drewN | apply below_drew1 | refine below_set ?_ GE146.out) | exact HB.out)) hb); clear HO130; clear HO141; clear HO144; clear BK146; clear HB; have HO130 := n0_; have HO141 := n1_; have HO144 := n2_; have HO149 := n3_; have BK146 := n4_; have HB := n5_; clear n0_ n1_ n2_ n3_ n4_ n5_; clear hb ho18; obtain ⟨Ao19, co19, eo19⟩ := Kd.R_slice HO149.out; subst eo19) | (go_at_call 11; (with_reducible refine (stolonref01_Same.calls k _ _ t128 _ _ y147 true _ ?side1 ?side2 ?side3 ?side4 A4.out).mono ?_); (case side1 => repeat (first | exact (Kd.R_reads' HO130.out).2.2 | (with_reducible refine Kd.C_alloc ?_ _) | (with_reducible refine Kd.C_drewN ?_ _) | (with_reducible refine Kd.C_drew ?_))); (case side2 => exact (Kd.R_reads' HO130.out).2.1); (case side3 => repeat (first | exact (Kd.R_reads' HO149.out).2.2 | (with_reducible refine Kd.C_alloc ?_ _) | (with_reducible refine Kd.C_drewN ?_ _) | (with_reducible refine Kd.C_drew ?_))); (case side4 => exact (Kd.R_reads' HO149.out).2.1); rintro e w' ⟨rfl, ⟨nd, rfl⟩⟩; obtain ⟨hcz20_0, hcz20_1, hcz20_2, hcz20_3, hcz20_4, hcz20_5, hcz20_6, hcz20_7, hcz20_8, hfz20_0, hfz20_1, hfz20_2, hfz20_3, hfz20_4, hfz20_5, hfz20_6, hfz20_7, hfz20_8⟩ := blk9 BK146.out) | (go_at_call 9; (with_reducible refine (igmp_Right.calls k t132 t133 t134 t135 t136 t137 t138 _ _ t139 _ _ t142 t151 _ ?side1 ?side2 ?side3 ?side4 A9.out).mono ?_); (case side1 => repeat (first | exact (Kd.R_reads' HO141.out).2.2 | (with_reducible refine Kd.C_alloc ?_ _) | (with_reducible refine Kd.C_drewN ?_ _) | (with_reducible refine Kd.C_drew ?_))); (case side2 => exact (Kd.R_reads' HO141.out).2.1); (case side3 => repeat (first | exact (Kd.S_reads' HO144.out).2.2 | (with_reducible refine Kd.C_alloc ?_ _) | (with_reducible refine Kd.C_drewN ?_ _) | (with_reducible refine Kd.C_drew ?_))); (case side4 => exact (Kd.S_reads' HO144.out).2.1); rintro e w21 ⟨rfl, hb⟩; have n0_ := Aside0.mk (Kd.R_below (by (with_reducible repeat (first | apply Kd.R_alloc | apply Kd.R_drewN | apply Kd.R_drew)); exact HO130.out) hb); have n1_ := Aside0.mk (Kd.R_below (by (with_reducible repeat (first | apply Kd.R_alloc | apply Kd.R_drewN | apply Kd.R_drew)); exact HO141.out) hb); have n2_ := Aside0.mk (Kd.S_below (by (with_reducible repeat (first | apply Kd.S_alloc | apply Kd.S_drewN | apply Kd.S_drew)); exact HO144.out) hb); have n3_ := Aside0.mk (Kd.R_below (by (with_reducible repeat (first | apply Kd.R_alloc | apply Kd.R_drewN | apply Kd.R_drew)); exact HO149.out) hb); have n4_ := Aside0.mk (blk_below (g := gb146) (o := .cells #[.int .u8 t132, .int .i64 t133, .int .u8 t134, .int .u32 t135, .bool t136, .int .u8 t137, .int .u8 t138, .slice Ao15 t139.length co15, .slice Ao16 t142.length co16] 27 (0, 0)) (by (with_reducible repeat (first | refine blk_drewN ?_ _ | refine blk_drew ?_ | refine blk_alloc ?_ _)); exact BK146.out) hb); have n5_ := Aside0.mk (below_step (by repeat (first | (with_reducible first | exact HB.out | apply below_alloc | apply pw_below_drewN | apply below_drew1 | refine below_set ?_ GE146.out) | exact HB.out)) hb); clear HO130; clear HO141; clear HO144; clear HO149; clear BK146; clear HB; have HO130 := n0_; have HO141 := n1_; have HO144 := n2_; have HO149 := n3_; have BK146 := n4_; have HB := n5_; clear n0_ n1_ n2_ n3_ n4_ n5_; (try clear hb); (try clear hb2); (try clear hk); (try clear hi)))
            go_ret
            exact ⟨by first | rfl | (simp [errW_none, errW_some] <;> rfl) | (simp [*, errW_none, errW_some] <;> rfl), by repeat (first | (with_reducible first | exact HB.out | apply below_alloc | apply pw_below_drewN | apply below_drew1 | refine below_set ?_ GE146.out) | exact HB.out)⟩
          · rw [if_neg c8] at H
            have c8b0 : (t135 == 4009820675) = false := beq_eq_false_iff_ne.mpr c8
            have c8b1 : (t135 != 4009820675) = true := bne_iff_ne.mpr c8
            exact absurd ((Option.some.inj H).trans HRT.out) (by decide)
        · rw [if_neg c7] at H
          have c7b0 : (t132 == 22) = false := beq_eq_false_iff_ne.mpr c7
          have c7b1 : (t132 != 22) = true := bne_iff_ne.mpr c7
          exact absurd ((Option.some.inj H).trans HRT.out) (by decide)
      · rw [if_neg c6] at H
        have c6b0 : (t145 == 0) = false := beq_eq_false_iff_ne.mpr c6
        have c6b1 : (t145 != 0) = true := bne_iff_ne.mpr c6
        exact absurd ((Option.some.inj H).trans HRT.out) (by decide)
    · replace c5 := Bool.eq_false_iff.mpr c5
      subst c5
      have H1 : (some false) = some r := by rw [if_neg (show ¬ (false = true) by decide)] at H; exact H
      clear H
      have H := H1
      clear H1
      exact absurd ((Option.some.inj H).trans HRT.out) (by decide)
  · rw [if_neg c3] at H
    have c3b0 : (t131 == 0) = false := beq_eq_false_iff_ne.mpr c3
    have c3b1 : (t131 != 0) = true := bne_iff_ne.mpr c3
    exact absurd ((Option.some.inj H).trans HRT.out) (by decide)
end Go.Proofs.Ytafmjhmpnlkeiaa.P

namespace Go.Proofs.Ytafmjhmpnlkeiaa.P
open Go.RowKit Go.Proofs.YtafmjhmpnlkeiaaW.PrintWords Go.Proofs.YtafmjhmpnlkeiaaW.PrintLast Go.Proofs.YtafmjhmpnlkeiaaW.PrintMore
attribute [local go_sem] max2_int min2_int max_two min_two max_three min_three max_four min_four   -- for this text's walks alone
set_option linter.unusedVariables false
set_option linter.unusedSimpArgs false
/-! ### stolonlaw05_IgmpReads: function 4 -/
def stolonlaw05_IgmpReads.f (k : Nat) (l0 : List Int) : Option (Bool) := (stolonlaw05_shown.f k).bind fun t273 => (if (l0.length : Int) > 3000 then (some t273) else ((igmp_Decode.f k l0).bind fun bt274 => ((stolonref05_Decode.f k l0).bind fun bt289 => (if t273 = true then ((stolonref05_Same.f k bt274.1 bt274.2.1 bt274.2.2.1 bt274.2.2.2.1 bt274.2.2.2.2.1 bt274.2.2.2.2.2.1 bt274.2.2.2.2.2.2.1 bt274.2.2.2.2.2.2.2.1 bt274.2.2.2.2.2.2.2.2.1 bt289.1 bt289.2.1 bt289.2.2.1 bt289.2.2.2.1 bt289.2.2.2.2.1 bt289.2.2.2.2.2.1 bt289.2.2.2.2.2.2.1 bt289.2.2.2.2.2.2.2.1 bt289.2.2.2.2.2.2.2.2.1).bind fun t304 => (if t304 = true then (some (bt274.2.2.2.2.2.2.2.2.2 == bt289.2.2.2.2.2.2.2.2.2)) else (some false))) else (some false)))))
set_option maxHeartbeats 8000000 in
set_option maxRecDepth 100000 in
theorem stolonlaw05_IgmpReads.calls (k : Nat) (A0 : Option Addr) (c0 : Nat) (l0 : List Int) (r : Bool) (w : World) (hr0 : Kd.C (Kd.int .u8) w A0 l0.length l0) (hc0 : l0.length ≤ c0) (h : stolonlaw05_IgmpReads.f k l0 = some r) (hrt : r = true) :
    Calls Try.prog 4 #[.slice A0 l0.length c0] w fun e w' => e = .returned (.bool r) ∧ Below w.heap.size w w' := by
  have HRT := Aside0.mk hrt
  clear hrt
  have hu27 := Try.underlying27
  have HR0 := Aside0.mk hr0
  have HC0 := Aside0.mk hc0
  clear hr0 hc0
  have HB := Aside0.mk (Below.refl w.heap.size w)
  have H : ((stolonlaw05_shown.f k).bind fun t273 => (if (l0.length : Int) > 3000 then (some t273) else ((igmp_Decode.f k l0).bind fun bt274 => ((stolonref05_Decode.f k l0).bind fun bt289 => (if t273 = true then ((stolonref05_Same.f k bt274.1 bt274.2.1 bt274.2.2.1 bt274.2.2.2.1 bt274.2.2.2.2.1 bt274.2.2.2.2.2.1 bt274.2.2.2.2.2.2.1 bt274.2.2.2.2.2.2.2.1 bt274.2.2.2.2.2.2.2.2.1 bt289.1 bt289.2.1 bt289.2.2.1 bt289.2.2.2.1 bt289.2.2.2.2.1 bt289.2.2.2.2.2.1 bt289.2.2.2.2.2.2.1 bt289.2.2.2.2.2.2.2.1 bt289.2.2.2.2.2.2.2.2.1).bind fun t304 => (if t304 = true then (some (bt274.2.2.2.2.2.2.2.2.2 == bt289.2.2.2.2.2.2.2.2.2)) else (some false))) else (some false)))))) = some r := h
  clear h
  replace H := Option.bind_eq_some_iff.mp H
  obtain ⟨t273, A20, H⟩ := H
  replace H : (if (l0.length : Int) > 3000 then (some t273) else ((igmp_Decode.f k l0).bind fun bt274 => ((stolonref05_Decode.f k l0).bind fun bt289 => (if t273 = true then ((stolonref05_Same.f k bt274.1 bt274.2.1 bt274.2.2.1 bt274.2.2.2.1 bt274.2.2.2.2.1 bt274.2.2.2.2.2.1 bt274.2.2.2.2.2.2.1 bt274.2.2.2.2.2.2.2.1 bt274.2.2.2.2.2.2.2.2.1 bt289.1 bt289.2.1 bt289.2.2.1 bt289.2.2.2.1 bt289.2.2.2.2.1 bt289.2.2.2.2.2.1 bt289.2.2.2.2.2.2.1 bt289.2.2.2.2.2.2.2.1 bt289.2.2.2.2.2.2.2.2.1).bind fun t304 => (if t304 = true then (some (bt274.2.2.2.2.2.2.2.2.2 == bt289.2.2.2.2.2.2.2.2.2)) else (some false))) else (some false))))) = some r := H
  have A2 := Aside0.mk A20
  clear A20
  by_cases c3 : (l0.length : Int) > 3000
  · rw [if_pos c3] at H
    have c3b0 : decide (3000 < (l0.length : Int)) = true := decide_eq_true c3
    have c3b1 : decide (3000 < l0.length) = true := decide_eq_true (by omega)
    clear c3
    obtain rfl := Option.some.inj H
    go_enter Try.func4, Try.ntmps4
    go_wp2_with (first | ((with_reducible refine gate_callee (f := 5) rfl ?_); refine goesL_ (some 8) rfl rfl Try.func5 (by kernel_rfl) rfl #[] rfl (by (try simp only [List.map_toArray, List.map_cons, List.map_nil]); first | done | rfl | (simp only [List.length_drop, List.length_take]; rfl)) ?_; (with_reducible refine (stolonlaw05_shown.calls k  t273 _ A2.out).mono ?_); rintro e w4 ⟨rfl, hb⟩; refine ⟨_, rfl, ?_⟩; have n0_ := Aside0.mk (below_step (by repeat (first | (with_reducible first | exact HB.out | apply below_alloc | apply pw_below_drewN | apply below_drew1) | exact HB.out)) hb); clear HB; have HB := n0_; clear n0_; (try clear hb); (try clear hb2); (try clear hk); (try clear hi)))
    go_ret
    exact ⟨by first | rfl | (simp [errW_none, errW_some] <;> rfl) | (simp [*, errW_none, errW_some] <;> rfl), by repeat (first | (with_reducible first | exact HB.out | apply below_alloc | apply pw_below_drewN | apply below_drew1) | exact HB.out)⟩
  · rw [if_neg c3] at H
    have c3b0 : decide (3000 < (l0.length : Int)) = false := decide_eq_false c3
    have c3b1 : decide (3000 < l0.length) = false := decide_eq_false (by omega)
    clear c3
    replace H := Option.bind_eq_some_iff.mp H
    obtain ⟨⟨t274, t275, t276, t277, t278, t279, t280, t281, t284, t287⟩, A50, H⟩ := H
    replace H : ((stolonref05_Decode.f k l0).bind fun bt289 => (if t273 = true then ((stolonref05_Same.f k t274 t275 t276 t277 t278 t279 t280 t281 t284 bt289.1 bt289.2.1 bt289.2.2.1 bt289.2.2.2.1 bt289.2.2.2.2.1 bt289.2.2.2.2.2.1 bt289.2.2.2.2.2.2.1 bt289.2.2.2.2.2.2.2.1 bt289.2.2.2.2.2.2.2.2.1).bind fun t304 => (if t304 = true then (some (t287 == bt289.2.2.2.2.2.2.2.2.2)) else (some false))) else (some false))) = some r := H
    have A5 := Aside0.mk A50
    clear A50
    replace H := Option.bind_eq_some_iff.mp H
    obtain ⟨⟨t289, t290, t291, t292, t293, t294, t295, t296, t299, t302⟩, A60, H⟩ := H
    replace H : (if t273 = true then ((stolonref05_Same.f k t274 t275 t276 t277 t278 t279 t280 t281 t284 t289 t290 t291 t292 t293 t294 t295 t296 t299).bind fun t304 => (if t304 = true then (some (t287 == t302)) else (some false))) else (some false)) = some r := H
    have A6 := Aside0.mk A60
    clear A60
    by_cases c7 : t273 = true
    · subst c7
      have H1 : ((stolonref05_Same.f k t274 t275 t276 t277 t278 t279 t280 t281 t284 t289 t290 t291 t292 t293 t294 t295 t296 t299).bind fun t304 => (if t304 = true then (some (t287 == t302)) else (some false))) = some r := by rw [if_pos rfl] at H; exact H
      clear H
      have H := H1
      clear H1
      replace H := Option.bind_eq_some_iff.mp H
      obtain ⟨t304, A80, H⟩ := H
      replace H : (if t304 = true then (some (t287 == t302)) else (some false)) = some r := H
      have A8 := Aside0.mk A80
      clear A80
      by_cases c9 : t304 = true
      · subst c9
        have H1 : (some (t287 == t302)) = some r := by rw [if_pos rfl] at H; exact H
        clear H
        have H := H1
        clear H1
        obtain rfl := Option.some.inj H
        go_enter Try.func4, Try.ntmps4
        go_wp2_with (first | ((with_reducible refine gate_callee (f := 5) rfl ?_); refine goesL_ (some 8) rfl rfl Try.func5 (by kernel_rfl) rfl #[] rfl (by (try simp only [List.map_toArray, List.map_cons, List.map_nil]); first | done | rfl | (simp only [List.length_drop, List.length_take]; rfl)) ?_; (with_reducible refine (stolonlaw05_shown.calls k  true _ A2.out).mono ?_); rintro e w10 ⟨rfl, hb⟩; refine ⟨_, rfl, ?_⟩; have n0_ := Aside0.mk (below_step (by repeat (first | (with_reducible first | exact HB.out | apply below_alloc | apply pw_below_drewN | apply below_drew1) | exact HB.out)) hb); clear HB; have HB := n0_; clear n0_; (try clear hb); (try clear hb2); (try clear hk); (try clear hi)) | ((with_reducible refine gate_callee (f := 14) rfl ?_); refine goesL_ (some 15) rfl rfl Try.func14 (by kernel_rfl) rfl #[.slice A0 l0.length c0] rfl (by (try simp only [List.map_toArray, List.map_cons, List.map_nil]); first | done | rfl | (simp only [List.length_drop, List.length_take]; rfl)) ?_; (with_reducible refine (igmp_Decode.calls k _ _ l0 t274 t275 t276 t277 t278 t279 t280 t281 t284 t287 _ ?side1 ?side2 A5.out).mono ?_); (case side1 => repeat (first | exact (Kd.C_below HR0.out HB.out) | (with_reducible refine Kd.C_alloc ?_ _) | (with_reducible refine Kd.C_drewN ?_ _) | (with_reducible refine Kd.C_drew ?_))); (case side2 => exact HC0.out); rintro e w11 ⟨v282, v285, rfl, ho0, ho1, hb⟩; refine ⟨_, rfl, ?_⟩; have n0_ := Aside0.mk (Kd.R_lower ho0 (below_size (by repeat (first | (with_reducible first | exact HB.out | apply below_alloc | apply pw_below_drewN | apply below_drew1) | exact HB.out)))); have n1_ := Aside0.mk (Kd.S_lower ho1 (below_size (by repeat (first | (with_reducible first | exact HB.out | apply below_alloc | apply pw_below_drewN | apply below_drew1) | exact HB.out)))); have n2_ := Aside0.mk (below_step (by repeat (first | (with_reducible first | exact HB.out | apply below_alloc | apply pw_below_drewN | apply below_drew1) | exact HB.out)) hb); clear HB; have HO283 := n0_; have HO286 := n1_; have HB := n2_; clear n0_ n1_ n2_; (try clear hb); (try clear hb2); (try clear hk); (try clear hi); (try clear ho0); (try clear ho1)) | ((with_reducible refine gate_dst (N := 4) rfl ?_); refine box_event ?hg (N := 4) ?hd (cs := #[.int .u8 0, .int .i64 0, .int .u8 0, .int .u32 0, .bool false, .int .u8 0, .int .u8 0, .slice none 0 0, .slice none 0 0]) (t := 27) ?hr ?_; (case hd => rfl); (case hg => rfl); (case hr => first | (go_simp; done) | (go_simp; rfl)); intro gb288 hg w12 hbox hb; have n0_ := Aside0.mk (Kd.R_below (by (with_reducible repeat (first | apply Kd.R_alloc | apply Kd.R_drewN | apply Kd.R_drew)); exact HO283.out) hb); have n1_ := Aside0.mk (Kd.S_below (by (with_reducible repeat (first | apply Kd.S_alloc | apply Kd.S_drewN | apply Kd.S_drew)); exact HO286.out) hb); have n2_ := Aside0.mk (below_step (by repeat (first | (with_reducible first | exact HB.out | apply below_alloc | apply pw_below_drewN | apply below_drew1) | exact HB.out)) hb); have n3_ := Aside0.mk (hbox); have n4_ := Aside0.mk ((by rw [hg]; exact (below_size (by repeat (first | (with_reducible first | exact HB.out | apply below_alloc | apply pw_below_drewN | apply below_drew1) | exact HB.out))) : w.heap.size ≤ gb288)); have n5_ := Aside0.mk ((by rw [hg]; exact (below_size (by repeat (first | (with_reducible first | exact HB.out | apply below_alloc | apply pw_below_drewN | apply below_drew1) | exact HB.out))) : w.heap.size ≤ gb288)); clear HO283; clear HO286; clear HB; have HO283 := n0_; have HO286 := n1_; have HB := n2_; have BK288 := n3_; have GW288 := n4_; have GE288 := n5_; clear n0_ n1_ n2_ n3_ n4_ n5_; clear hb hbox hg; obtain ⟨hcz13_0, hcz13_1, hcz13_2, hcz13_3, hcz13_4, hcz13_5, hcz13_6, hcz13_7, hcz13_8, hfz13_0, hfz13_1, hfz13_2, hfz13_3, hfz13_4, hfz13_5, hfz13_6, hfz13_7, hfz13_8⟩ := blk9 BK288.out; obtain ⟨Ao14, co14, eo14⟩ := Kd.R_slice HO283.out; subst eo14; obtain ⟨Ao15, co15, eo15⟩ := Kd.S_slice HO286.out; subst eo15) | ((with_reducible refine gate_callee (f := 15) rfl ?_); refine goesL_ (some 20) rfl rfl Try.func15 (by kernel_rfl) rfl #[.slice A0 l0.length c0] rfl (by (try simp only [List.map_toArray, List.map_cons, List.map_nil]); first | done | rfl | (simp only [List.length_drop, List.length_take]; rfl)) ?_; (with_reducible refine (stolonref05_Decode.calls k _ _ l0 t289 t290 t291 t292 t293 t294 t295 t296 t299 t302 _ ?side1 ?side2 A6.out).mono ?_); (case side1 => exact Kd.C_below HR0.out (by repeat (first | (with_reducible first | exact HB.out | apply below_alloc | apply pw_below_drewN | apply below_drew1 | refine below_set ?_ GE288.out) | exact HB.out))); (case side2 => exact HC0.out); rintro e w16 ⟨v297, v300, rfl, ho0, ho1, hb⟩; refine ⟨_, rfl, ?_⟩; have n0_ := Aside0.mk (Kd.R_elder' (by (with_reducible repeat (first | apply Kd.R_alloc | apply Kd.R_drewN | apply Kd.R_drew)); exact (Kd.R_mono (Kd.R_far (p := ⟨gb288, 8, none⟩) (Kd.R_far (p := ⟨gb288, 7, none⟩) (Kd.R_far (p := ⟨gb288, 6, none⟩) (Kd.R_far (p := ⟨gb288, 5, none⟩) (Kd.R_far (p := ⟨gb288, 4, none⟩) (Kd.R_far (p := ⟨gb288, 3, none⟩) (Kd.R_far (p := ⟨gb288, 2, none⟩) (Kd.R_far (p := ⟨gb288, 1, none⟩) (Kd.R_far (p := ⟨gb288, 0, none⟩) (Kd.R_types HO283.out BK288.out (by decide)) (fun _ hk => hk.2) (.int .u8 t274)) (fun _ hk => hk.2) (.int .i64 t275)) (fun _ hk => hk.2) (.int .u8 t276)) (fun _ hk => hk.2) (.int .u32 t277)) (fun _ hk => hk.2) (.bool t278)) (fun _ hk => hk.2) (.int .u8 t279)) (fun _ hk => hk.2) (.int .u8 t280)) (fun _ hk => hk.2) (.slice Ao14 t281.length co14)) (fun _ hk => hk.2) (.slice Ao15 t284.length co15)) (fun _ h_ => h_.1))) (Kd.R_base ho0) hb); have n1_ := Aside0.mk (Kd.S_mono (Kd.S_told (Kd.S_told (Kd.S_old (by (with_reducible repeat (first | apply Kd.S_alloc | apply Kd.S_drewN | apply Kd.S_drew)); exact (Kd.S_mono (Kd.S_far (p := ⟨gb288, 8, none⟩) (Kd.S_far (p := ⟨gb288, 7, none⟩) (Kd.S_far (p := ⟨gb288, 6, none⟩) (Kd.S_far (p := ⟨gb288, 5, none⟩) (Kd.S_far (p := ⟨gb288, 4, none⟩) (Kd.S_far (p := ⟨gb288, 3, none⟩) (Kd.S_far (p := ⟨gb288, 2, none⟩) (Kd.S_far (p := ⟨gb288, 1, none⟩) (Kd.S_far (p := ⟨gb288, 0, none⟩) (Kd.S_types HO286.out BK288.out (by decide)) (fun _ hk => hk.2) (.int .u8 t274)) (fun _ hk => hk.2) (.int .i64 t275)) (fun _ hk => hk.2) (.int .u8 t276)) (fun _ hk => hk.2) (.int .u32 t277)) (fun _ hk => hk.2) (.bool t278)) (fun _ hk => hk.2) (.int .u8 t279)) (fun _ hk => hk.2) (.int .u8 t280)) (fun _ hk => hk.2) (.slice Ao14 t281.length co14)) (fun _ hk => hk.2) (.slice Ao15 t284.length co15)) (fun _ h_ => h_.1))) hb) (Kd.R_base ho0)) (Kd.S_base ho1)) (fun _ h_ => h_.1)); have n2_ := Aside0.mk (Kd.R_lower (Kd.R_new' ho0 (Kd.R_lt (by (with_reducible repeat (first | apply Kd.R_alloc | apply Kd.R_drewN | apply Kd.R_drew)); exact (Kd.R_mono (Kd.R_far (p := ⟨gb288, 8, none⟩) (Kd.R_far (p := ⟨gb288, 7, none⟩) (Kd.R_far (p := ⟨gb288, 6, none⟩) (Kd.R_far (p := ⟨gb288, 5, none⟩) (Kd.R_far (p := ⟨gb288, 4, none⟩) (Kd.R_far (p := ⟨gb288, 3, none⟩) (Kd.R_far (p := ⟨gb288, 2, none⟩) (Kd.R_far (p := ⟨gb288, 1, none⟩) (Kd.R_far (p := ⟨gb288, 0, none⟩) (Kd.R_types HO283.out BK288.out (by decide)) (fun _ hk => hk.2) (.int .u8 t274)) (fun _ hk => hk.2) (.int .i64 t275)) (fun _ hk => hk.2) (.int .u8 t276)) (fun _ hk => hk.2) (.int .u32 t277)) (fun _ hk => hk.2) (.bool t278)) (fun _ hk => hk.2) (.int .u8 t279)) (fun _ hk => hk.2) (.int .u8 t280)) (fun _ hk => hk.2) (.slice Ao14 t281.length co14)) (fun _ hk => hk.2) (.slice Ao15 t284.length co15)) (fun _ h_ => h_.1))))) (below_size (by repeat (first | (with_reducible first | exact HB.out | apply below_alloc | apply pw_below_drewN | apply below_drew1 | refine below_set ?_ GE288.out) | exact HB.out)))); have n3_ := Aside0.mk (Kd.S_lower (Kd.S_new' (Kd.S_new' ho1 (Kd.R_lt (by (with_reducible repeat (first | apply Kd.R_alloc | apply Kd.R_drewN | apply Kd.R_drew)); exact (Kd.R_mono (Kd.R_far (p := ⟨gb288, 8, none⟩) (Kd.R_far (p := ⟨gb288, 7, none⟩) (Kd.R_far (p := ⟨gb288, 6, none⟩) (Kd.R_far (p := ⟨gb288, 5, none⟩) (Kd.R_far (p := ⟨gb288, 4, none⟩) (Kd.R_far (p := ⟨gb288, 3, none⟩) (Kd.R_far (p := ⟨gb288, 2, none⟩) (Kd.R_far (p := ⟨gb288, 1, none⟩) (Kd.R_far (p := ⟨gb288, 0, none⟩) (Kd.R_types HO283.out BK288.out (by decide)) (fun _ hk => hk.2) (.int .u8 t274)) (fun _ hk => hk.2) (.int .i64 t275)) (fun _ hk => hk.2) (.int .u8 t276)) (fun _ hk => hk.2) (.int .u32 t277)) (fun _ hk => hk.2) (.bool t278)) (fun _ hk => hk.2) (.int .u8 t279)) (fun _ hk => hk.2) (.int .u8 t280)) (fun _ hk => hk.2) (.slice Ao14 t281.length co14)) (fun _ hk => hk.2) (.slice Ao15 t284.length co15)) (fun _ h_ => h_.1))))) (Kd.S_lt (by (with_reducible repeat (first | apply Kd.S_alloc | apply Kd.S_drewN | apply Kd.S_drew)); exact (Kd.S_mono (Kd.S_far (p := ⟨gb288, 8, none⟩) (Kd.S_far (p := ⟨gb288, 7, none⟩) (Kd.S_far (p := ⟨gb288, 6, none⟩) (Kd.S_far (p := ⟨gb288, 5, none⟩) (Kd.S_far (p := ⟨gb288, 4, none⟩) (Kd.S_far (p := ⟨gb288, 3, none⟩) (Kd.S_far (p := ⟨gb288, 2, none⟩) (Kd.S_far (p := ⟨gb288, 1, none⟩) (Kd.S_far (p := ⟨gb288, 0, none⟩) (Kd.S_types HO286.out BK288.out (by decide)) (fun _ hk => hk.2) (.int .u8 t274)) (fun _ hk => hk.2) (.int .i64 t275)) (fun _ hk => hk.2) (.int .u8 t276)) (fun _ hk => hk.2) (.int .u32 t277)) (fun _ hk => hk.2) (.bool t278)) (fun _ hk => hk.2) (.int .u8 t279)) (fun _ hk => hk.2) (.int .u8 t280)) (fun _ hk => hk.2) (.slice Ao14 t281.length co14)) (fun _ hk => hk.2) (.slice Ao15 t284.length co15)) (fun _ h_ => h_.1))))) (below_size (by repeat (first | (with_reducible first | exact HB.out | apply below_alloc | apply pw_below_drewN | apply below_drew1 | refine below_set ?_ GE288.out) | exact HB.out)))); have n4_ := Aside0.mk (blk_below (g := gb288) (o := .cells #[.int .u8 t274, .int .i64 t275, .int .u8 t276, .int .u32 t277, .bool t278, .int .u8 t279, .int .u8 t280, .slice Ao14 t281.length co14, .slice Ao15 t284.length co15] 27 (0, 0)) (by (with_reducible repeat (first | refine blk_drewN ?_ _ | refine blk_drew ?_ | refine blk_alloc ?_ _)); refine blk_put (cs := #[.int .u8 t274, .int .i64 t275, .int .u8 t276, .int .u32 t277, .bool t278, .int .u8 t279, .int .u8 t280, .slice Ao14 t281.length co14, .slice none 0 0]) ?_ 8 _ rfl; (with_reducible repeat (first | refine blk_drewN ?_ _ | refine blk_drew ?_ | refine blk_alloc ?_ _)); refine blk_put (cs := #[.int .u8 t274, .int .i64 t275, .int .u8 t276, .int .u32 t277, .bool t278, .int .u8 t279, .int .u8 t280, .slice none 0 0, .slice none 0 0]) ?_ 7 _ rfl; (with_reducible repeat (first | refine blk_drewN ?_ _ | refine blk_drew ?_ | refine blk_alloc ?_ _)); refine blk_put (cs := #[.int .u8 t274, .int .i64 t275, .int .u8 t276, .int .u32 t277, .bool t278, .int .u8 t279, .int .u8 0, .slice none 0 0, .slice none 0 0]) ?_ 6 _ rfl; (with_reducible repeat (first | refine blk_drewN ?_ _ | refine blk_drew ?_ | refine blk_alloc ?_ _)); refine blk_put (cs := #[.int .u8 t274, .int .i64 t275, .int .u8 t276, .int .u32 t277, .bool t278, .int .u8 0, .int .u8 0, .slice none 0 0, .slice none 0 0]) ?_ 5 _ rfl; (with_reducible repeat (first | refine blk_drewN ?_ _ | refine blk_drew ?_ | refine blk_alloc ?_ _)); refine blk_put (cs := #[.int .u8 t274, .int .i64 t275, .int .u8 t276, .int .u32 t277, .bool false, .int .u8 0, .int .u8 0, .slice none 0 0, .slice none 0 0]) ?_ 4 _ rfl; (with_reducible repeat (first | refine blk_drewN ?_ _ | refine blk_drew ?_ | refine blk_alloc ?_ _)); refine blk_put (cs := #[.int .u8 t274, .int .i64 t275, .int .u8 t276, .int .u32 0, .bool false, .int .u8 0, .int .u8 0, .slice none 0 0, .slice none 0 0]) ?_ 3 _ rfl; (with_reducible repeat (first | refine blk_drewN ?_ _ | refine blk_drew ?_ | refine blk_alloc ?_ _)); refine blk_put (cs := #[.int .u8 t274, .int .i64 t275, .int .u8 0, .int .u32 0, .bool false, .int .u8 0, .int .u8 0, .slice none 0 0, .slice none 0 0]) ?_ 2 _ rfl; (with_reducible repeat (first | refine blk_drewN ?_ _ | refine blk_drew ?_ | refine blk_alloc ?_ _)); refine blk_put (cs := #[.int .u8 t274, .int .i64 0, .int .u8 0, .int .u32 0, .bool false, .int .u8 0, .int .u8 0, .slice none 0 0, .slice none 0 0]) ?_ 1 _ rfl; (with_reducible repeat (first | refine blk_drewN ?_ _ | refine blk_drew ?_ | refine blk_alloc ?_ _)); refine blk_put (cs := #[.int .u8 0, .int .i64 0, .int .u8 0, .int .u32 0, .bool false, .int .u8 0, .int .u8 0, .slice none 0 0, .slice none 0 0]) ?_ 0 _ rfl; (with_reducible repeat (first | refine blk_drewN ?_ _ | refine blk_drew ?_ | refine blk_alloc ?_ _)); exact BK288.out) hb); have n5_ := Aside0.mk (below_step (by repeat (first | (with_reducible first | exact HB.out | apply below_alloc | apply pw_below_drewN | apply below_drew1 | refine below_set ?_ GE288.out) | exact HB.out)) hb); clear HO283; clear HO286; clear BK288; clear HB; have HO283 := n0_; have HO286 := n1_; have HO298 := n2_; have HO301 := n3_; have BK288 := n4_; have HB := n5_; clear n0_ n1_ n2_ n3_ n4_ n5_; (try clear hb); (try clear hb2); (try clear hk); (try clear hi); (try clear ho0); (try clear ho1)) | ((with_reducible refine gate_dst (N := 6) rfl ?_); refine box_event ?hg (N := 6) ?hd (cs := #[.int .u8 0, .int .i64 0, .int .u8 0, .int .u32 0, .bool false, .int .u8 0, .int .u8 0, .slice none 0 0, .slice none 0 0]) (t := 27) ?hr ?_; (case hd => rfl); (case hg => rfl); (case hr => first | (go_simp; done) | (go_simp; rfl)); intro gb303 hg w17 hbox hb; have n0_ := Aside0.mk (Kd.R_below (by (with_reducible repeat (first | apply Kd.R_alloc | apply Kd.R_drewN | apply Kd.R_drew)); exact HO283.out) hb); have n1_ := Aside0.mk (Kd.S_below (by (with_reducible repeat (first | apply Kd.S_alloc | apply Kd.S_drewN | apply Kd.S_drew)); exact HO286.out) hb); have n2_ := Aside0.mk (Kd.R_below (by (with_reducible repeat (first | apply Kd.R_alloc | apply Kd.R_drewN | apply Kd.R_drew)); exact HO298.out) hb); have n3_ := Aside0.mk (Kd.S_below (by (with_reducible repeat (first | apply Kd.S_alloc | apply Kd.S_drewN | apply Kd.S_drew)); exact HO301.out) hb); have n4_ := Aside0.mk (blk_below (g := gb288) (o := .cells #[.int .u8 t274, .int .i64 t275, .int .u8 t276, .int .u32 t277, .bool t278, .int .u8 t279, .int .u8 t280, .slice Ao14 t281.length co14, .slice Ao15 t284.length co15] 27 (0, 0)) (by (with_reducible repeat (first | refine blk_drewN ?_ _ | refine blk_drew ?_ | refine blk_alloc ?_ _)); exact BK288.out) hb); have n5_ := Aside0.mk (below_step (by repeat (first | (with_reducible first | exact HB.out | apply below_alloc | apply pw_below_drewN | apply below_drew1 | refine below_set ?_ GE288.out) | exact HB.out)) hb); have n6_ := Aside0.mk (hbox); have n7_ := Aside0.mk ((by rw [hg]; exact (below_size (by repeat (first | (with_reducible first | exact HB.out | apply below_alloc | apply pw_below_drewN | apply below_drew1 | refine below_set ?_ GE288.out) | exact HB.out))) : w.heap.size ≤ gb303)); have n8_ := Aside0.mk ((by rw [hg]; exact (below_size (by repeat (first | (with_reducible first | exact HB.out | apply below_alloc | apply pw_below_drewN | apply below_drew1 | refine below_set ?_ GE288.out) | exact HB.out))) : w.heap.size ≤ gb303)); have n9_ := Aside0.mk ((by rw [hg]; exact Nat.ne_of_lt (blk_lt (g := gb288) (o := .cells #[.int .u8 t274, .int .i64 t275, .int .u8 t276, .int .u32 t277, .bool t278, .int .u8 t279, .int .u8 t280, .slice Ao14 t281.length co14, .slice Ao15 t284.length co15] 27 (0, 0)) (by (with_reducible repeat (first | refine blk_drewN ?_ _ | refine blk_drew ?_ | refine blk_alloc ?_ _)); exact BK288.out)) : gb288 ≠ gb303)); have n10_ := Aside0.mk ((by rw [hg]; exact Nat.ne_of_gt (blk_lt (g := gb288) (o := .cells #[.int .u8 t274, .int .i64 t275, .int .u8 t276, .int .u32 t277, .bool t278, .int .u8 t279, .int .u8 t280, .slice Ao14 t281.length co14, .slice Ao15 t284.length co15] 27 (0, 0)) (by (with_reducible repeat (first | refine blk_drewN ?_ _ | refine blk_drew ?_ | refine blk_alloc ?_ _)); exact BK288.out)) : gb303 ≠ gb288)); clear HO283; clear HO286; clear HO298; clear HO301; clear BK288; clear HB; have HO283 := n0_; have HO286 := n1_; have HO298 := n2_; have HO301 := n3_; have BK288 := n4_; have HB := n5_; have BK303 := n6_; have GW303 := n7_; have GE303 := n8_; have NB288_303 := n9_; have NB303_288 := n10_; clear n0_ n1_ n2_ n3_ n4_ n5_ n6_ n7_ n8_ n9_ n10_; clear hb hbox hg; have hnb18 := NB303_288.out; have hnc18 := NB288_303.out; obtain ⟨hcz19_0, hcz19_1, hcz19_2, hcz19_3, hcz19_4, hcz19_5, hcz19_6, hcz19_7, hcz19_8, hfz19_0, hfz19_1, hfz19_2, hfz19_3, hfz19_4, hfz19_5, hfz19_6, hfz19_7, hfz19_8⟩ := blk9 BK303.out; obtain ⟨Ao20, co20, eo20⟩ := Kd.R_slice HO298.out; subst eo20; obtain ⟨Ao21, co21, eo21⟩ := Kd.S_slice HO301.out; subst eo21; obtain ⟨hcz22_0, hcz22_1, hcz22_2, hcz22_3, hcz22_4, hcz22_5, hcz22_6, hcz22_7, hcz22_8, hfz22_0, hfz22_1, hfz22_2, hfz22_3, hfz22_4, hfz22_5, hfz22_6, hfz22_7, hfz22_8⟩ := blk9 BK288.out) | (go_at_call 13; (with_reducible refine (stolonref05_Same.calls k t274 t275 t276 t277 t278 t279 t280 _ _ t281 _ _ t284 t289 t290 t291 t292 t293 t294 t295 _ _ t296 _ _ t299 true _ ?side1 ?side2 ?side3 ?side4 ?side5 ?side6 ?side7 ?side8 A8.out).mono ?_); (case side1 => refine (Kd.R_reads' (e := 23) (base := w.heap.size) (ok := fun k_ => (True ∧ some k_ ≠ (.slice Ao20 t296.length co20 : Value).ownBlock)) (n := t281.length) (c := co14) ?_).2.2; exact (by (with_reducible repeat (first | apply Kd.R_alloc | apply Kd.R_drewN | apply Kd.R_drew)); exact (Kd.R_mono (Kd.R_far (p := ⟨gb303, 8, none⟩) (Kd.R_far (p := ⟨gb303, 7, none⟩) (Kd.R_far (p := ⟨gb303, 6, none⟩) (Kd.R_far (p := ⟨gb303, 5, none⟩) (Kd.R_far (p := ⟨gb303, 4, none⟩) (Kd.R_far (p := ⟨gb303, 3, none⟩) (Kd.R_far (p := ⟨gb303, 2, none⟩) (Kd.R_far (p := ⟨gb303, 1, none⟩) (Kd.R_far (p := ⟨gb303, 0, none⟩) (Kd.R_types HO283.out BK303.out (by decide)) (fun _ hk => hk.2) (.int .u8 t289)) (fun _ hk => hk.2) (.int .i64 t290)) (fun _ hk => hk.2) (.int .u8 t291)) (fun _ hk => hk.2) (.int .u32 t292)) (fun _ hk => hk.2) (.bool t293)) (fun _ hk => hk.2) (.int .u8 t294)) (fun _ hk => hk.2) (.int .u8 t295)) (fun _ hk => hk.2) (.slice Ao20 t296.length co20)) (fun _ hk => hk.2) (.slice Ao21 t299.length co21)) (fun _ h_ => h_.1)))); (case side2 => exact (Kd.R_reads' HO283.out).2.1); (case side3 => refine (Kd.S_reads' (e := 44) (base := w.heap.size) (ok := fun k_ => ((some k_ ≠ (.slice Ao14 t281.length co14 : Value).ownBlock ∧ some k_ ≠ (.slice Ao20 t296.length co20 : Value).ownBlock) ∧ some k_ ≠ (.slice Ao21 t299.length co21 : Value).ownBlock)) (n := t284.length) (c := co15) ?_).2.2; exact (by (with_reducible repeat (first | apply Kd.S_alloc | apply Kd.S_drewN | apply Kd.S_drew)); exact (Kd.S_mono (Kd.S_far (p := ⟨gb303, 8, none⟩) (Kd.S_far (p := ⟨gb303, 7, none⟩) (Kd.S_far (p := ⟨gb303, 6, none⟩) (Kd.S_far (p := ⟨gb303, 5, none⟩) (Kd.S_far (p := ⟨gb303, 4, none⟩) (Kd.S_far (p := ⟨gb303, 3, none⟩) (Kd.S_far (p := ⟨gb303, 2, none⟩) (Kd.S_far (p := ⟨gb303, 1, none⟩) (Kd.S_far (p := ⟨gb303, 0, none⟩) (Kd.S_types HO286.out BK303.out (by decide)) (fun _ hk => hk.2) (.int .u8 t289)) (fun _ hk => hk.2) (.int .i64 t290)) (fun _ hk => hk.2) (.int .u8 t291)) (fun _ hk => hk.2) (.int .u32 t292)) (fun _ hk => hk.2) (.bool t293)) (fun _ hk => hk.2) (.int .u8 t294)) (fun _ hk => hk.2) (.int .u8 t295)) (fun _ hk => hk.2) (.slice Ao20 t296.length co20)) (fun _ hk => hk.2) (.slice Ao21 t299.length co21)) (fun _ h_ => h_.1)))); (case side4 => exact (Kd.S_reads' HO286.out).2.1); (case side5 => refine (Kd.R_reads' (e := 23) (base := w.heap.size) (ok := fun k_ => (True ∧ some k_ ≠ (.slice Ao14 t281.length co14 : Value).ownBlock)) (n := t296.length) (c := co20) ?_).2.2; exact (by (with_reducible repeat (first | apply Kd.R_alloc | apply Kd.R_drewN | apply Kd.R_drew)); exact (Kd.R_mono (Kd.R_far (p := ⟨gb303, 8, none⟩) (Kd.R_far (p := ⟨gb303, 7, none⟩) (Kd.R_far (p := ⟨gb303, 6, none⟩) (Kd.R_far (p := ⟨gb303, 5, none⟩) (Kd.R_far (p := ⟨gb303, 4, none⟩) (Kd.R_far (p := ⟨gb303, 3, none⟩) (Kd.R_far (p := ⟨gb303, 2, none⟩) (Kd.R_far (p := ⟨gb303, 1, none⟩) (Kd.R_far (p := ⟨gb303, 0, none⟩) (Kd.R_types HO298.out BK303.out (by decide)) (fun _ hk => hk.2) (.int .u8 t289)) (fun _ hk => hk.2) (.int .i64 t290)) (fun _ hk => hk.2) (.int .u8 t291)) (fun _ hk => hk.2) (.int .u32 t292)) (fun _ hk => hk.2) (.bool t293)) (fun _ hk => hk.2) (.int .u8 t294)) (fun _ hk => hk.2) (.int .u8 t295)) (fun _ hk => hk.2) (.slice Ao20 t296.length co20)) (fun _ hk => hk.2) (.slice Ao21 t299.length co21)) (fun _ h_ => h_.1)))); (case side6 => exact (Kd.R_reads' HO298.out).2.1); (case side7 => refine (Kd.S_reads' (e := 44) (base := w.heap.size) (ok := fun k_ => ((some k_ ≠ (.slice Ao20 t296.length co20 : Value).ownBlock ∧ some k_ ≠ (.slice Ao14 t281.length co14 : Value).ownBlock) ∧ some k_ ≠ (.slice Ao15 t284.length co15 : Value).ownBlock)) (n := t299.length) (c := co21) ?_).2.2; exact (by (with_reducible repeat (first | apply Kd.S_alloc | apply Kd.S_drewN | apply Kd.S_drew)); exact (Kd.S_mono (Kd.S_far (p := ⟨gb303, 8, none⟩) (Kd.S_far (p := ⟨gb303, 7, none⟩) (Kd.S_far (p := ⟨gb303, 6, none⟩) (Kd.S_far (p := ⟨gb303, 5, none⟩) (Kd.S_far (p := ⟨gb303, 4, none⟩) (Kd.S_far (p := ⟨gb303, 3, none⟩) (Kd.S_far (p := ⟨gb303, 2, none⟩) (Kd.S_far (p := ⟨gb303, 1, none⟩) (Kd.S_far (p := ⟨gb303, 0, none⟩) (Kd.S_types HO301.out BK303.out (by decide)) (fun _ hk => hk.2) (.int .u8 t289)) (fun _ hk => hk.2) (.int .i64 t290)) (fun _ hk => hk.2) (.int .u8 t291)) (fun _ hk => hk.2) (.int .u32 t292)) (fun _ hk => hk.2) (.bool t293)) (fun _ hk => hk.2) (.int .u8 t294)) (fun _ hk => hk.2) (.int .u8 t295)) (fun _ hk => hk.2) (.slice Ao20 t296.length co20)) (fun _ hk => hk.2) (.slice Ao21 t299.length co21)) (fun _ h_ => h_.1)))); (case side8 => exact (Kd.S_reads' HO301.out).2.1); rintro e w23 ⟨rfl, hb⟩; have n0_ := Aside0.mk (Kd.R_below (by (with_reducible repeat (first | apply Kd.R_alloc | apply Kd.R_drewN | apply Kd.R_drew)); exact (Kd.R_mono (Kd.R_far (p := ⟨gb303, 8, none⟩) (Kd.R_far (p := ⟨gb303, 7, none⟩) (Kd.R_far (p := ⟨gb303, 6, none⟩) (Kd.R_far (p := ⟨gb303, 5, none⟩) (Kd.R_far (p := ⟨gb303, 4, none⟩) (Kd.R_far (p := ⟨gb303, 3, none⟩) (Kd.R_far (p := ⟨gb303, 2, none⟩) (Kd.R_far (p := ⟨gb303, 1, none⟩) (Kd.R_far (p := ⟨gb303, 0, none⟩) (Kd.R_types HO283.out BK303.out (by decide)) (fun _ hk => hk.2) (.int .u8 t289)) (fun _ hk => hk.2) (.int .i64 t290)) (fun _ hk => hk.2) (.int .u8 t291)) (fun _ hk => hk.2) (.int .u32 t292)) (fun _ hk => hk.2) (.bool t293)) (fun _ hk => hk.2) (.int .u8 t294)) (fun _ hk => hk.2) (.int .u8 t295)) (fun _ hk => hk.2) (.slice Ao20 t296.length co20)) (fun _ hk => hk.2) (.slice Ao21 t299.length co21)) (fun _ h_ => h_.1))) hb); have n1_ := Aside0.mk (Kd.S_below (by (with_reducible repeat (first | apply Kd.S_alloc | apply Kd.S_drewN | apply Kd.S_drew)); exact (Kd.S_mono (Kd.S_far (p := ⟨gb303, 8, none⟩) (Kd.S_far (p := ⟨gb303, 7, none⟩) (Kd.S_far (p := ⟨gb303, 6, none⟩) (Kd.S_far (p := ⟨gb303, 5, none⟩) (Kd.S_far (p := ⟨gb303, 4, none⟩) (Kd.S_far (p := ⟨gb303, 3, none⟩) (Kd.S_far (p := ⟨gb303, 2, none⟩) (Kd.S_far (p := ⟨gb303, 1, none⟩) (Kd.S_far (p := ⟨gb303, 0, none⟩) (Kd.S_types HO286.out BK303.out (by decide)) (fun _ hk => hk.2) (.int .u8 t289)) (fun _ hk => hk.2) (.int .i64 t290)) (fun _ hk => hk.2) (.int .u8 t291)) (fun _ hk => hk.2) (.int .u32 t292)) (fun _ hk => hk.2) (.bool t293)) (fun _ hk => hk.2) (.int .u8 t294)) (fun _ hk => hk.2) (.int .u8 t295)) (fun _ hk => hk.2) (.slice Ao20 t296.length co20)) (fun _ hk => hk.2) (.slice Ao21 t299.length co21)) (fun _ h_ => h_.1))) hb); have n2_ := Aside0.mk (Kd.R_below (by (with_reducible repeat (first | apply Kd.R_alloc | apply Kd.R_drewN | apply Kd.R_drew)); exact (Kd.R_mono (Kd.R_far (p := ⟨gb303, 8, none⟩) (Kd.R_far (p := ⟨gb303, 7, none⟩) (Kd.R_far (p := ⟨gb303, 6, none⟩) (Kd.R_far (p := ⟨gb303, 5, none⟩) (Kd.R_far (p := ⟨gb303, 4, none⟩) (Kd.R_far (p := ⟨gb303, 3, none⟩) (Kd.R_far (p := ⟨gb303, 2, none⟩) (Kd.R_far (p := ⟨gb303, 1, none⟩) (Kd.R_far (p := ⟨gb303, 0, none⟩) (Kd.R_types HO298.out BK303.out (by decide)) (fun _ hk => hk.2) (.int .u8 t289)) (fun _ hk => hk.2) (.int .i64 t290)) (fun _ hk => hk.2) (.int .u8 t291)) (fun _ hk => hk.2) (.int .u32 t292)) (fun _ hk => hk.2) (.bool t293)) (fun _ hk => hk.2) (.int .u8 t294)) (fun _ hk => hk.2) (.int .u8 t295)) (fun _ hk => hk.2) (.slice Ao20 t296.length co20)) (fun _ hk => hk.2) (.slice Ao21 t299.length co21)) (fun _ h_ => h_.1))) hb); have n3_ := Aside0.mk (Kd.S_below (by (with_reducible repeat (first | apply Kd.S_alloc | apply Kd.S_drewN | apply Kd.S_drew)); exact (Kd.S_mono (Kd.S_far (p := ⟨gb303, 8, none⟩) (Kd.S_far (p := ⟨gb303, 7, none⟩) (Kd.S_far (p := ⟨gb303, 6, none⟩) (Kd.S_far (p := ⟨gb303, 5, none⟩) (Kd.S_far (p := ⟨gb303, 4, none⟩) (Kd.S_far (p := ⟨gb303, 3, none⟩) (Kd.S_far (p := ⟨gb303, 2, none⟩) (Kd.S_far (p := ⟨gb303, 1, none⟩) (Kd.S_far (p := ⟨gb303, 0, none⟩) (Kd.S_types HO301.out BK303.out (by decide)) (fun _ hk => hk.2) (.int .u8 t289)) (fun _ hk => hk.2) (.int .i64 t290)) (fun _ hk => hk.2) (.int .u8 t291)) (fun _ hk => hk.2) (.int .u32 t292)) (fun _ hk => hk.2) (.bool t293)) (fun _ hk => hk.2) (.int .u8 t294)) (fun _ hk => hk.2) (.int .u8 t295)) (fun _ hk => hk.2) (.slice Ao20 t296.length co20)) (fun _ hk => hk.2) (.slice Ao21 t299.length co21)) (fun _ h_ => h_.1))) hb); have n4_ := Aside0.mk (blk_below (g := gb288) (o := .cells #[.int .u8 t274, .int .i64 t275, .int .u8 t276, .int .u32 t277, .bool t278, .int .u8 t279, .int .u8 t280, .slice Ao14 t281.length co14, .slice Ao15 t284.length co15] 27 (0, 0)) (by (with_reducible repeat (first | refine blk_drewN ?_ _ | refine blk_drew ?_ | refine blk_alloc ?_ _)); refine blk_far ?_ NB288_303.out _; (with_reducible repeat (first | refine blk_drewN ?_ _ | refine blk_drew ?_ | refine blk_alloc ?_ _)); refine blk_far ?_ NB288_303.out _; (with_reducible repeat (first | refine blk_drewN ?_ _ | refine blk_drew ?_ | refine blk_alloc ?_ _)); refine blk_far ?_ NB288_303.out _; (with_reducible repeat (first | refine blk_drewN ?_ _ | refine blk_drew ?_ | refine blk_alloc ?_ _)); refine blk_far ?_ NB288_303.out _; (with_reducible repeat (first | refine blk_drewN ?_ _ | refine blk_drew ?_ | refine blk_alloc ?_ _)); refine blk_far ?_ NB288_303.out _; (with_reducible repeat (first | refine blk_drewN ?_ _ | refine blk_drew ?_ | refine blk_alloc ?_ _)); refine blk_far ?_ NB288_303.out _; (with_reducible repeat (first | refine blk_drewN ?_ _ | refine blk_drew ?_ | refine blk_alloc ?_ _)); refine blk_far ?_ NB288_303.out _; (with_reducible repeat (first | refine blk_drewN ?_ _ | refine blk_drew ?_ | refine blk_alloc ?_ _)); refine blk_far ?_ NB288_303.out _; (with_reducible repeat (first | refine blk_drewN ?_ _ | refine blk_drew ?_ | refine blk_alloc ?_ _)); refine blk_far ?_ NB288_303.out _; (with_reducible repeat (first | refine blk_drewN ?_ _ | refine blk_drew ?_ | refine blk_alloc ?_ _)); exact BK288.out) hb); have n5_ := Aside0.mk (blk_below (g := gb303) (o := .cells #[.int .u8 t289, .int .i64 t290, .int .u8 t291, .int .u32 t292, .bool t293, .int .u8 t294, .int .u8 t295, .slice Ao20 t296.length co20, .slice Ao21 t299.length co21] 27 (0, 0)) (by (with_reducible repeat (first | refine blk_drewN ?_ _ | refine blk_drew ?_ | refine blk_alloc ?_ _)); refine blk_put (cs := #[.int .u8 t289, .int .i64 t290, .int .u8 t291, .int .u32 t292, .bool t293, .int .u8 t294, .int .u8 t295, .slice Ao20 t296.length co20, .slice none 0 0]) ?_ 8 _ rfl; (with_reducible repeat (first | refine blk_drewN ?_ _ | refine blk_drew ?_ | refine blk_alloc ?_ _)); refine blk_put (cs := #[.int .u8 t289, .int .i64 t290, .int .u8 t291, .int .u32 t292, .bool t293, .int .u8 t294, .int .u8 t295, .slice none 0 0, .slice none 0 0]) ?_ 7 _ rfl; (with_reducible repeat (first | refine blk_drewN ?_ _ | refine blk_drew ?_ | refine blk_alloc ?_ _)); refine blk_put (cs := #[.int .u8 t289, .int .i64 t290, .int .u8 t291, .int .u32 t292, .bool t293, .int .u8 t294, .int .u8 0, .slice none 0 0, .slice none 0 0]) ?_ 6 _ rfl; (with_reducible repeat (first | refine blk_drewN ?_ _ | refine blk_drew ?_ | refine blk_alloc ?_ _)); refine blk_put (cs := #[.int .u8 t289, .int .i64 t290, .int .u8 t291, .int .u32 t292, .bool t293, .int .u8 0, .int .u8 0, .slice none 0 0, .slice none 0 0]) ?_ 5 _ rfl; (with_reducible repeat (first | refine blk_drewN ?_ _ | refine blk_drew ?_ | refine blk_alloc ?_ _)); refine blk_put (cs := #[.int .u8 t289, .int .i64 t290, .int .u8 t291, .int .u32 t292, .bool false, .int .u8 0, .int .u8 0, .slice none 0 0, .slice none 0 0]) ?_ 4 _ rfl; (with_reducible repeat (first | refine blk_drewN ?_ _ | refine blk_drew ?_ | refine blk_alloc ?_ _)); refine blk_put (cs := #[.int .u8 t289, .int .i64 t290, .int .u8 t291, .int .u32 0, .bool false, .int .u8 0, .int .u8 0, .slice none 0 0, .slice none 0 0]) ?_ 3 _ rfl; (with_reducible repeat (first | refine blk_drewN ?_ _ | refine blk_drew ?_ | refine blk_alloc ?_ _)); refine blk_put (cs := #[.int .u8 t289, .int .i64 t290, .int .u8 0, .int .u32 0, .bool false, .int .u8 0, .int .u8 0, .slice none 0 0, .slice none 0 0]) ?_ 2 _ rfl; (with_reducible repeat (first | refine blk_drewN ?_ _ | refine blk_drew ?_ | refine blk_alloc ?_ _)); refine blk_put (cs := #[.int .u8 t289, .int .i64 0, .int .u8 0, .int .u32 0, .bool false, .int .u8 0, .int .u8 0, .slice none 0 0, .slice none 0 0]) ?_ 1 _ rfl; (with_reducible repeat (first | refine blk_drewN ?_ _ | refine blk_drew ?_ | refine blk_alloc ?_ _)); refine blk_put (cs := #[.int .u8 0, .int .i64 0, .int .u8 0, .int .u32 0, .bool false, .int .u8 0, .int .u8 0, .slice none 0 0, .slice none 0 0]) ?_ 0 _ rfl; (with_reducible repeat (first | refine blk_drewN ?_ _ | refine blk_drew ?_ | refine blk_alloc ?_ _)); exact BK303.out) hb); have n6_ := Aside0.mk (below_step (by repeat (first | (with_reducible first | exact HB.out | apply below_alloc | apply pw_below_drewN | apply below_drew1 | refine below_set ?_ GE288.out | refine below_set ?_ GE303.out) | exact HB.out)) hb); clear HO283; clear HO286; clear HO298; clear HO301; clear BK288; clear BK303; clear HB; have HO283 := n0_; have HO286 := n1_; have HO298 := n2_; have HO301 := n3_; have BK288 := n4_; have BK303 := n5_; have HB := n6_; clear n0_ n1_ n2_ n3_ n4_ n5_ n6_; (try clear hb); (try clear hb2); (try clear hk); (try clear hi)))
        go_ret
        exact ⟨by first | rfl | (simp [errW_none, errW_some] <;> rfl) | (simp [*, errW_none, errW_some] <;> rfl), by repeat (first | (with_reducible first | exact HB.out | apply below_alloc | apply pw_below_drewN | apply below_drew1 | refine below_set ?_ GE288.out | refine below_set ?_ GE303.out) | exact HB.out)⟩
      · replace c9 := Bool.eq_false_iff.mpr c9
        subst c9
        have H1 : (some false) = some r := by rw [if_neg (show ¬ (false = true) by decide)] at H; exact H
        clear H
        have H := H1
        clear H1
        exact absurd ((Option.some.inj H).trans HRT.out) (by decide)
    · replace c7 := Bool.eq_false_iff.mpr c7
      subst c7
      have H1 : (some false) = some r := by rw [if_neg (show ¬ (false = true) by decide)] at H; exact H
      clear H
      have H := H1
      clear H1
      exact absurd ((Option.some.inj H).trans HRT.out) (by decide)
end Go.Proofs.Ytafmjhmpnlkeiaa.P

namespace Go.Proofs.Ytafmjhmpnlkeiaa.P
open Go.RowKit Go.Shelf Go.Proofs.YtafmjhmpnlkeiaaW.PrintWords Go.Proofs.YtafmjhmpnlkeiaaW.PrintLast Go.Proofs.YtafmjhmpnlkeiaaW.PrintMore
set_option linter.unusedVariables false
set_option linter.unusedSimpArgs false
theorem Ev.of_more {α : Type} {f : Nat → Option α} {v : α} (hm : ∀ k, LeO (f k) (f (k + 1))) (k0 : Nat) (h : f k0 = some v) : Ev f v := by
  refine ⟨k0, fun k hk => ?_⟩
  obtain ⟨d, rfl⟩ : ∃ d, k = k0 + d := ⟨k - k0, by omega⟩
  clear hk
  induction d with
  | zero => exact h
  | succ d ih => exact hm _ _ ih
theorem shown_settles : Ev (fun k => stolonlaw05_shown.f k) true := Ev.of_more (fun k => stolonlaw05_shown.mono k) 20 shown_ex
/-- What Decode answers is some message, and some number. -/
theorem decV_msg (l : List Int) (hok : okBytes l = true) (hl : l.length ≤ 3000) : ∃ (m : Msg) (e : Int), decV l = tupM m e ∧ m.short := by
  have h0 : (⟨0, 0, 0, 0, false, 0, 0, [], []⟩ : Msg).short := ⟨by simp, by simp, by simp⟩
  have hn : ∀ e, noneM e = tupM ⟨0, 0, 0, 0, false, 0, 0, [], []⟩ e := fun e => rfl
  unfold decV
  split
  · exact ⟨_, _, hn _, h0⟩
  · split
    · split
      · cases hr : readM (rd l 0) (rd l 1) (l.drop 4) with
        | none => exact ⟨_, _, hn _, h0⟩
        | some p =>
          obtain ⟨m, l7, l8, r⟩ := p
          have hd4 : (l.drop 4).length = l.length - 4 := by simp
          obtain ⟨hs, hrl⟩ := readM_some (by omega) (ok_drop hok 4) (by omega) hr
          simp only [finV, lastV]
          split
          · split
            · exact ⟨_, _, rfl, hs⟩
            · exact ⟨_, _, hn _, h0⟩
          · exact ⟨_, _, hn _, h0⟩
      · exact ⟨_, _, hn _, h0⟩
    · exact ⟨_, _, hn _, h0⟩
theorem sameV_refl (m : Msg) : sameV m m = true := by
  unfold sameV
  simp [(recsEq_iff m.recs m.recs).2 rfl]
theorem reads_ev (l : List Int) (hok : okBytes l = true) : Ev (fun k => stolonlaw05_IgmpReads.f k l) true := by
  unfold stolonlaw05_IgmpReads.f
  refine Ev.bind shown_settles ?_
  by_cases hl : l.length ≤ 3000
  · refine Ev.congr (fun k => if_neg (by omega)) ?_
    refine Ev.bind (dec_ev l hok hl) (Ev.bind (ref_ev l hok hl) ?_)
    obtain ⟨m, e, he, hs⟩ := decV_msg l hok hl
    rw [he]
    refine Ev.congr (fun k => if_pos rfl) ?_
    refine Ev.bind (u := true) ((same13 m m hs).val (sameV_refl m)) ?_
    refine Ev.congr (fun k => if_pos rfl) (Ev.const ?_)
    simp
  · exact Ev.congr (fun k => if_pos (by omega)) (Ev.const rfl)
end Go.Proofs.Ytafmjhmpnlkeiaa.P

namespace Go.Proofs.Ytafmjhmpnlkeiaa.igmpReads
open Go.ChangeShapes Go.WideShapes Go.ChangeAt Go.RowKit Go.Proofs.Ytafmjhmpnlkeiaa.P Go.Proofs.YtafmjhmpnlkeiaaW.PrintWords
open Go.ChangeMaps (open_string shut_string)
set_option linter.unusedVariables false
theorem own : ownKnob Try.prog.godebug = none := by kernel_rfl
theorem laidOut : laidOutB Try.prog = true := by kernel_rfl
def IsRow (k : IntKind) (w : World) (a : Option Addr) (len cap : Nat) (zs : List Int) : Prop :=
  (a = none ∧ len = 0 ∧ cap = 0 ∧ zs = []) ∨
  ∃ x, a = some x ∧ len ≤ cap ∧ cap ≤ maxLen ∧ zs.length = cap ∧ (∀ i, i < zs.length → w.cell? (x.add i) = some (.int k (zs.getD i 0))) ∧ ∀ n ∈ zs, (Lit.int k n).wf = true
theorem wf_okBytes (l : List Int) (h : ∀ x ∈ l, (Lit.int .u8 x).wf = true) : okBytes l = true := by
  rw [okBytes_iff']
  intro x hx
  have h1 := h x hx
  simp [Lit.wf, show IntKind.u8.min = 0 from rfl, show IntKind.u8.max = 255 from rfl] at h1
  omega
theorem walk (a0 : Option Addr) (len0 cap0 : Nat) (z0 : List Int) (w : World) (w0 : IsRow .u8 w a0 len0 cap0 z0) : Calls Try.prog 4 #[.slice a0 len0 cap0] w fun e w' => e = .returned (.bool true) ∧ Below w.heap.size w w' := by
  obtain ⟨l0, rfl, hr0, hm0, hw0, hc0⟩ := ReadsInt.ofRowC w0
  obtain ⟨k, h⟩ := reads_ev l0 (wf_okBytes l0 hw0)
  exact stolonlaw05_IgmpReads.calls k _ _ l0 true w (Kd.C_of_reads (d := (0 : Int)) (h1 := fun _ => rfl) hr0) hc0 (h k (Nat.le_refl _)) rfl
set_option maxRecDepth 100000 in
theorem lifted (os : Os) (started : os.Started) (H : Type) (enc : TypeId × Value → H) :
    ReturnsInHanded {} Try.checked os 4 .any (Rows.igmpReadsSpec.pre6 enc Try.prog Try.f4 Rows.igmpReadsRow.domain false) (Rows.igmpReadsSpec.post enc Try.prog Try.f4 false true false false) := by
  refine returnsInHanded_of_change_sized (C := Try.checked) own started (by kernel_rfl) Try.func4
    (ChangeSpec.witness6 (enc := enc) (C := Try.checked) false ⟨#[], #[.slice none 0 0], []⟩ 8 (by kernel_rfl) (by kernel_rfl) (by kernel_rfl) (by kernel_rfl)) ?_
  intro W base args ds gs before hval0 hW hcnd hsz0 _
  have hval : ∀ (j : Nat) t v, Try.f4.params[j]? = some t → args[j]? = some v → Value.okWide Try.prog W .any base t v := hval0
  have hW' := hW
  obtain ⟨p, q, hA0, hV, rfl, hfz, hnd⟩ := hW
  have hA : DataW.TrodAll enc Try.prog W 0 (fun _ => true) true Try.f4.params.toList args.toList ds p := hA0
  rw [Try.params4] at hA hval
  obtain ⟨v0, vs0, d0, ds0, p0, q0, hargs, rfl, rfl, h0, r0⟩ := trodAll_cons hA
  obtain ⟨rfl, rfl, rfl⟩ := trodAll_nil r0
  obtain rfl : args = #[v0] := by cases args; simp_all
  obtain ⟨rfl, rfl⟩ := trodVars_none hV
  obtain ⟨a0, len0, cap0, rfl⟩ := okWide_slice Try.underlying30 (hval 0 30 v0 rfl rfl)
  have k0 := h0
  have lt0 : ∀ x ∈ p0, x.block < W.heap.size := by obtain ⟨m, hm⟩ := k0; exact DataW.trod_lt m _ _ _ hm
  obtain ⟨z0, w0⟩ : ∃ zs, IsRow .u8 W a0 len0 cap0 zs := by
    obtain ⟨fuel, hf⟩ := h0
    rcases open_ints Try.underlying30 Try.underlying5 (by kernel_rfl) hf with ⟨hcs, _⟩ | ⟨x, l, c, zs, hcs, _, hl, hm, hz, _, hcell, hwz⟩
    · simp [Value.cells] at hcs
      obtain ⟨rfl, rfl, rfl⟩ := hcs
      exact ⟨[], .inl ⟨rfl, rfl, rfl, rfl⟩⟩
    · simp [Value.cells] at hcs
      obtain ⟨rfl, rfl, rfl⟩ := hcs
      exact ⟨zs, .inr ⟨_, rfl, hl, hm, by simpa using hz, hcell, hwz⟩⟩
  clear hA0 hval0 hsz0
  refine (walk a0 len0 cap0 z0 W w0).mono fun e W' ⟨he, bel⟩ => ?_
  subst he
  exact ⟨_, rfl, _, _, _, [], _, [], hW', trodAll_mk1 (shut_bool Try.underlying4 _), (trodAll_cons_mk (Below.trod laidOut (by kernel_rfl) (of_decide_eq_true (by kernel_rfl)) k0 bel lt0) trodAll_mk0), rfl, bel.frame _, fun h => by cases h⟩
theorem over : Rows.igmpReadsRow.holds Try.pinned (OpenSpec.ofChange Rows.igmpReadsSpec) :=
  OpenClaim.holds_of_wide 4 Try.f4 rfl rfl rfl rfl rfl rfl rfl ⟨rfl, rfl, rfl, rfl, rfl⟩ rfl rfl rfl rfl rfl (by kernel_rfl) Try.func4 (by kernel_rfl)
    (of_decide_eq_true (by kernel_rfl)) (by unfold Func.isWrapper; first | (rw [if_pos (by decide +kernel)]; kernel_rfl) | (rw [if_neg (by decide +kernel)]; exact ⟨rfl, rfl⟩))
    (fun os started H enc _ => lifted os started H enc)
theorem proved : Rows.IgmpReadsSaid := over
#print axioms proved
end Go.Proofs.Ytafmjhmpnlkeiaa.igmpReads
namespace Go.Proofs.Ytafmjhmpnlkeiaa
/-- The row, under a short name, for the claim. -/
theorem igmpReads_holds : Rows.IgmpReadsSaid := igmpReads.proved
end Go.Proofs.Ytafmjhmpnlkeiaa
