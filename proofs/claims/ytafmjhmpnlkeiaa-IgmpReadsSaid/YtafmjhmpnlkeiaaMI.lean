/- A part of the proof of IgmpReads: whatever the bytes, the law returns true. Merged by a program of this work, without what is not used: GLaw3, GLaw4, F43, GBytes, GLay, GPut, GEncode, F53, F38, GLaw5, GLaw6, F54, F39, F41, F42. -/
import Derived.Test.YtafmjhmpnlkeiaaMH

namespace Go.Proofs.Ytafmjhmpnlkeiaa.P
open Go.RowKit Go.Proofs.YtafmjhmpnlkeiaaW.PrintWords Go.Proofs.YtafmjhmpnlkeiaaW.PrintLast Go.Proofs.YtafmjhmpnlkeiaaW.PrintMore
set_option linter.unusedVariables false
set_option linter.unusedSimpArgs false
def askedV (a : Int) : Bool := decide (3758096640 ≤ a) && decide (a ≤ 4026531839)
theorem asked28 (a : Int) : stolonref01_Asked.f a = some (askedV a) := by
  unfold stolonref01_Asked.f askedV
  by_cases h : a ≥ 3758096640
  · rw [if_pos h]
    simp [show 3758096640 ≤ a from h]
  · rw [if_neg h]
    have : ¬ 3758096640 ≤ a := h
    simp [this]
def Msg.bare (m : Msg) : Bool := !m.quiet && decide (m.robust = 0) && decide (m.every = 0) && decide (m.srcs.length = 0)
def Msg.plain (m : Msg) : Prop := m.kind = 18 ∨ m.kind = 22 ∨ m.kind = 23
instance (m : Msg) : Decidable m.plain := inferInstanceAs (Decidable (m.kind = 18 ∨ m.kind = 22 ∨ m.kind = 23))
def rightV (m : Msg) : Bool :=
  if m.kind = 34 then m.bare && decide (m.ver = 0) && decide (m.code = 0) && decide (m.group = 0) && decide (m.recs.length ≤ 32) && !(m.recs.any oddRec)
  else if 0 < m.recs.length then false
  else if m.plain then m.bare && decide (m.ver = 0) && decide (m.code = 0) && askedV m.group
  else if m.kind = 17 then
    (if m.ver = 1 then m.bare && decide (m.code = 0) && decide (m.group = 0)
     else if m.ver = 2 then m.bare && decide (0 < m.code) && (decide (m.group = 0) || askedV m.group)
     else if m.ver = 3 then decide (m.robust < 8) && decide (m.srcs.length ≤ 64) && (askedV m.group || (decide (m.group = 0) && decide (m.srcs.length = 0)))
     else false)
  else false
theorem oddRec_eq (a : S44) : oddRec a = !(decide (1 ≤ a.f0) && decide (a.f0 ≤ 6) && askedV a.f1 && decide (a.f2.length ≤ 64)) := by
  unfold oddRec askedV
  congr 1
  simp only [Bool.and_assoc]
theorem right_l0 (m : Msg) (hm : m.short) (d : Nat) : ∀ x : Nat, m.recs.length - x = d → x ≤ m.recs.length → Ev (fun k => stolonref05_Right.l0 k (x : Int) m.kind m.ver m.code m.group m.quiet m.robust m.every m.srcs m.recs) (!((m.recs.drop x).any oddRec)) := by
  induction d with
  | zero =>
    intro x hd hx
    refine Ev.succ (g := fun _ => some true) (fun k => by simp only [stolonref05_Right.l0]; rw [if_neg (by omega)]) (Ev.const ?_)
    rw [List.drop_of_length_le (by omega)]
    rfl
  | succ d ih =>
    intro x hd hx
    have hxa : x < m.recs.length := by omega
    have hj3 : ∀ b : Bool, Ev (fun k => stolonref05_Right.j3 k (x : Int) b m.kind m.ver m.code m.group m.quiet m.robust m.every m.srcs m.recs) (!b && !((m.recs.drop (x + 1)).any oddRec)) := by
      intro b
      refine Ev.succ (fun k => by simp only [stolonref05_Right.j3]; rfl) ?_
      refine Ev.ite (fun h => Ev.const (by simp [h])) (fun h => ?_)
      refine Ev.congr (fun k => by rw [wrap_succ x m.recs.length hxa hm.2.1]) ((ih (x + 1) (by omega) (by omega)).val ?_)
      simp at h
      simp [h]
    rw [List.drop_eq_getElem_cons hxa, List.any_cons, oddRec_eq]
    generalize (m.recs.drop (x + 1)).any oddRec = rest at hj3
    refine Ev.succ (fun k => by simp only [stolonref05_Right.l0]; rw [if_pos (by omega), if_pos (by omega), rdT44_eq m.recs x hxa, asked28]) ?_
    generalize m.recs[x] = a
    refine Ev.bind (u := askedV a.f1) (Ev.const rfl) ?_
    refine Ev.ite (fun h => (hj3 _).val ?_) (fun h => Ev.ite (fun h1 => (hj3 _).val ?_) (fun h1 => Ev.ite (fun h2 => (hj3 _).val ?_) (fun h2 => (hj3 _).val ?_)))
    · have : ¬ 1 ≤ a.f0 := by omega
      simp [this]
    · have : ¬ a.f0 ≤ 6 := by omega
      simp [this]
    · have e1 : 1 ≤ a.f0 := by omega
      have e2 : a.f0 ≤ 6 := by omega
      by_cases e3 : a.f2.length ≤ 64
      · have e4 : ¬ ((a.f2.length : Int) > 64) := by omega
        simp [e1, e2, e3, e4, h2]
      · have e4 : ((a.f2.length : Int) > 64) := by omega
        simp [e1, e2, e3, e4, h2]
    · simp at h2
      simp [h2]
theorem right10j4 (m : Msg) (h34 : m.kind ≠ 34) (h0 : m.recs.length = 0) (x105 : Bool) (hx : x105 = decide m.plain) : Ev (fun k => stolonref05_Right.j4 k m.bare (askedV m.group) x105 m.kind m.ver m.code m.group m.quiet m.robust m.every m.srcs m.recs) (rightV m) := by
  refine Ev.succ (fun k => by simp only [stolonref05_Right.j4]; rfl) ?_
  unfold rightV
  have hr0 : ¬ 0 < m.recs.length := by omega
  rw [if_neg h34, if_neg hr0]
  refine Ev.ite (fun h => ?_) (fun h => ?_)
  · rw [hx] at h
    simp only [decide_eq_true_eq] at h
    rw [if_pos h]
    refine Ev.ite (fun h1 => Ev.ite (fun h2 => Ev.ite (fun h3 => Ev.const ?_) (fun h3 => Ev.const ?_)) (fun h2 => Ev.const ?_)) (fun h1 => Ev.const ?_)
    · simp [h1, h2, h3]
    · simp [h3]
    · simp [h2]
    · simp at h1
      simp [h1]
  · rw [hx] at h
    simp only [decide_eq_true_eq] at h
    rw [if_neg h]
    refine Ev.ite (fun h17 => ?_) (fun h17 => ?_)
    · rw [if_pos h17]
      refine Ev.ite (fun h1 => ?_) (fun h1 => ?_)
      · rw [if_pos h1]
        refine Ev.ite (fun h2 => Ev.ite (fun h3 => Ev.const ?_) (fun h3 => Ev.const ?_)) (fun h2 => Ev.const ?_)
        · by_cases e : m.group = 0 <;> simp [h2, h3, e]
        · simp [h3]
        · simp at h2
          simp [h2]
      · rw [if_neg h1]
        refine Ev.ite (fun h4 => ?_) (fun h4 => ?_)
        · rw [if_pos h4]
          refine Ev.ite (fun h2 => Ev.ite (fun h3 => Ev.ite (fun h5 => Ev.const ?_) (fun h5 => Ev.const ?_)) (fun h3 => Ev.const ?_)) (fun h2 => Ev.const ?_)
          · have : 0 < m.code := h3
            simp [h2, this, h5]
          · have : 0 < m.code := h3
            simp [h2, this, h5]
          · have : ¬ 0 < m.code := h3
            simp [this]
          · simp at h2
            simp [h2]
        · rw [if_neg h4]
          refine Ev.ite (fun h6 => ?_) (fun h6 => ?_)
          · rw [if_pos h6]
            refine Ev.ite (fun h2 => Ev.ite (fun h3 => Ev.ite (fun h5 => Ev.const ?_) (fun h5 => Ev.ite (fun h7 => Ev.const ?_) (fun h7 => Ev.const ?_))) (fun h3 => Ev.const ?_)) (fun h2 => Ev.const ?_)
            · have : m.srcs.length ≤ 64 := by omega
              simp [h2, this, h5]
            · have : m.srcs.length ≤ 64 := by omega
              simp at h5
              by_cases e : m.srcs.length = 0
              · simp [h2, this, h5, h7, e]
              · have e' : ¬ ((m.srcs.length : Int) = 0) := by omega
                simp [h2, this, h5, h7, e, show askedV 0 = false from rfl]
            · simp at h5
              simp [h5, h7]
            · have : ¬ m.srcs.length ≤ 64 := by omega
              simp [this]
            · have : ¬ m.robust < 8 := h2
              simp [this]
          · rw [if_neg h6]
            exact Ev.const rfl
    · rw [if_neg h17]
      exact Ev.const rfl
theorem right10j0 (m : Msg) (hm : m.short) : Ev (fun k => stolonref05_Right.j0 k m.bare m.kind m.ver m.code m.group m.quiet m.robust m.every m.srcs m.recs) (rightV m) := by
  refine Ev.succ (fun k => by simp only [stolonref05_Right.j0]; rw [asked28]) ?_
  refine Ev.bind (u := askedV m.group) (Ev.const rfl) ?_
  refine Ev.ite (fun h => ?_) (fun h => ?_)
  · have hj1 : ∀ b : Bool, Ev (fun k => stolonref05_Right.j1 k b m.kind m.ver m.code m.group m.quiet m.robust m.every m.srcs m.recs) (!b && !(m.recs.any oddRec)) := by
      intro b
      refine Ev.succ (fun k => by simp only [stolonref05_Right.j1]; rfl) ?_
      refine Ev.ite (fun h => Ev.const (by simp [h])) (fun h => ?_)
      refine (right_l0 m hm _ 0 rfl (by omega)).val ?_
      simp at h
      simp [h]
    unfold rightV
    rw [if_pos h]
    refine Ev.ite (fun h1 => Ev.ite (fun h2 => Ev.ite (fun h3 => Ev.ite (fun h4 => (hj1 _).val ?_) (fun h4 => (hj1 _).val ?_)) (fun h3 => (hj1 _).val ?_)) (fun h2 => (hj1 _).val ?_)) (fun h1 => (hj1 _).val ?_)
    · by_cases e : m.recs.length ≤ 32
      · have e' : ¬ ((m.recs.length : Int) > 32) := by omega
        simp [h1, h2, h3, h4, e, e']
      · have e' : ((m.recs.length : Int) > 32) := by omega
        simp [h1, h2, h3, h4, e, e']
    · simp [h4]
    · simp [h3]
    · simp [h2]
    · simp at h1
      simp [h1]
  · refine Ev.ite (fun h0 => Ev.const ?_) (fun h0 => ?_)
    · have : 0 < m.recs.length := by omega
      simp [rightV, h, this]
    · have h0' : m.recs.length = 0 := by omega
      refine Ev.ite (fun h1 => ?_) (fun h1 => Ev.ite (fun h2 => ?_) (fun h2 => ?_))
      · exact right10j4 m h h0' _ (by simp [Msg.plain, h1])
      · exact right10j4 m h h0' _ (by simp [Msg.plain, h2])
      · exact right10j4 m h h0' _ (by by_cases e : m.kind = 23 <;> simp [Msg.plain, h1, h2, e])
theorem right10 (m : Msg) (hm : m.short) : Ev (fun k => stolonref05_Right.f k m.kind m.ver m.code m.group m.quiet m.robust m.every m.srcs m.recs) (rightV m) := by
  have hb := right10j0 m hm
  unfold stolonref05_Right.f
  refine Ev.ite (fun h0 => ?_) (fun h0 => Ev.ite (fun h1 => Ev.ite (fun h2 => ?_) (fun h2 => ?_)) (fun h1 => ?_))
  · have : m.bare = false := by simp [Msg.bare, h0]
    rw [this] at hb
    exact hb
  · simp at h0
    have : m.bare = ((m.srcs.length : Int) == 0) := by
      by_cases e : m.srcs.length = 0
      · simp [Msg.bare, h0, h1, h2, e]
      · have e' : ¬ ((m.srcs.length : Int) = 0) := by omega
        simp [Msg.bare, h0, h1, h2, e]
    rw [this] at hb
    exact hb
  · have : m.bare = false := by simp [Msg.bare, h2]
    rw [this] at hb
    exact hb
  · have : m.bare = false := by simp [Msg.bare, h1]
    rw [this] at hb
    exact hb
end Go.Proofs.Ytafmjhmpnlkeiaa.P

namespace Go.Proofs.Ytafmjhmpnlkeiaa.P
open Go.RowKit Go.Proofs.YtafmjhmpnlkeiaaW.PrintWords Go.Proofs.YtafmjhmpnlkeiaaW.PrintLast Go.Proofs.YtafmjhmpnlkeiaaW.PrintMore
set_option linter.unusedVariables false
set_option linter.unusedSimpArgs false
theorem sameV_flat (m : Msg) (k v c g : Int) : sameV m ⟨k, v, c, g, false, 0, 0, [], []⟩ = (decide (m.kind = k) && decide (m.ver = v) && decide (m.code = c) && decide (m.group = g) && m.bare && decide (m.recs.length = 0)) := by
  rw [Bool.eq_iff_iff]
  simp [sameV, Msg.bare, recsEq_iff]
  grind
theorem sameV_recs (m : Msg) (k v c g : Int) : sameV m ⟨k, v, c, g, false, 0, 0, [], m.recs⟩ = (decide (m.kind = k) && decide (m.ver = v) && decide (m.code = c) && decide (m.group = g) && m.bare) := by
  rw [Bool.eq_iff_iff]
  simp [sameV, Msg.bare, recsEq_iff]
  grind
theorem Ev.same {α : Type} {f : Nat → Option α} {v : α} (h : Ev f v) : Ev (fun k => (f k).bind fun t => some t) v := Ev.bind h (Ev.const rfl)
theorem query23j (m : Msg) (hm : m.short) (x : Bool) (h17 : m.kind = 17) (hx : x = (decide (m.group = 0) || askedV m.group)) : Ev (fun k => igmp_query.j0 k x m.kind m.ver m.code m.group m.quiet m.robust m.every m.srcs m.recs) (rightV m) := by
  have h34 : m.kind ≠ 34 := by omega
  have hp : ¬ m.plain := by unfold Msg.plain; omega
  refine Ev.succ (fun k => by simp only [igmp_query.j0]; rfl) ?_
  unfold rightV
  rw [if_neg h34]
  refine Ev.ite (fun h1 => ?_) (fun h1 => Ev.ite (fun h2 => ?_) (fun h2 => Ev.ite (fun h3 => ?_) (fun h3 => ?_)))
  · refine (Ev.same (same12 m ⟨17, 1, 0, 0, false, 0, 0, [], []⟩ hm)).val ?_
    rw [sameV_flat]
    by_cases hr : 0 < m.recs.length
    · rw [if_pos hr]
      have : ¬ m.recs.length = 0 := by omega
      rw [decide_eq_false this, Bool.and_false]
    · rw [if_neg hr, if_neg hp, if_pos h17, if_pos h1]
      have : m.recs.length = 0 := by omega
      rw [Bool.eq_iff_iff]
      simp [h17, h1, this]
      grind
  · by_cases hr : 0 < m.recs.length
    · rw [if_pos hr]
      refine Ev.ite (fun h4 => Ev.ite (fun h5 => ?_) (fun h5 => Ev.const rfl)) (fun h4 => Ev.const rfl)
      refine (Ev.same (same12 m ⟨17, 2, m.code, m.group, false, 0, 0, [], []⟩ hm)).val ?_
      rw [sameV_flat]
      have : ¬ m.recs.length = 0 := by omega
      rw [decide_eq_false this, Bool.and_false]
    · rw [if_neg hr, if_neg hp, if_pos h17, if_neg h1, if_pos h2, ← hx]
      refine Ev.ite (fun h4 => Ev.ite (fun h5 => ?_) (fun h5 => Ev.const ?_)) (fun h4 => Ev.const ?_)
      · refine (Ev.same (same12 m ⟨17, 2, m.code, m.group, false, 0, 0, [], []⟩ hm)).val ?_
        rw [sameV_flat]
        have h0 : m.recs.length = 0 := by omega
        have h5' : 0 < m.code := h5
        simp [h17, h2, h0, h4, h5']
      · have h5' : ¬ 0 < m.code := h5
        simp [h5']
      · simp at h4
        simp [h4]
  · refine Ev.ite (fun h4 => Ev.ite (fun h5 => Ev.ite (fun h6 => Ev.ite (fun h7 => Ev.ite (fun h8 => Ev.const ?_) (fun h8 => Ev.const ?_)) (fun h7 => Ev.const ?_)) (fun h6 => Ev.const ?_)) (fun h5 => Ev.const ?_)) (fun h4 => Ev.const ?_)
    all_goals
      by_cases hr : 0 < m.recs.length
      · first | (rw [if_pos hr]; done) | (exfalso; omega)
      rw [if_neg hr, if_neg hp, if_pos h17, if_neg h1, if_neg h2, if_pos h3]
    · have e1 : m.robust < 8 := by omega
      have e2 : m.srcs.length ≤ 64 := by omega
      have e3 : askedV m.group = false := by rw [h8]; rfl
      by_cases e : m.srcs.length = 0
      · simp [e1, e3, e, h8, show askedV 0 = false from rfl]
      · simp [e1, e2, e3, e, h8, show askedV 0 = false from rfl]
    · have e1 : m.robust < 8 := by omega
      have e2 : m.srcs.length ≤ 64 := by omega
      have e3 : askedV m.group = true := by
        rw [h4] at hx
        simpa [h8] using hx.symm
      simp [e1, e2, e3]
    · have e2 : ¬ m.srcs.length ≤ 64 := by omega
      simp [e2]
    · exfalso
      omega
    · have e1 : ¬ m.robust < 8 := by omega
      simp [e1]
    · have hg : (decide (m.group = 0) || askedV m.group) = false := by rw [← hx]; simpa using h4
      rw [Bool.or_eq_false_iff] at hg
      simp [hg.1, hg.2]
  · refine Ev.const ?_
    by_cases hr : 0 < m.recs.length
    · rw [if_pos hr]
    · rw [if_neg hr, if_neg hp, if_pos h17, if_neg h1, if_neg h2, if_neg h3]
theorem query23 (m : Msg) (hm : m.short) (h17 : m.kind = 17) : Ev (fun k => igmp_query.f k m.kind m.ver m.code m.group m.quiet m.robust m.every m.srcs m.recs) (rightV m) := by
  unfold igmp_query.f
  refine Ev.ite (fun h => ?_) (fun h => ?_)
  · exact query23j m hm true h17 (by simp [h])
  · refine Ev.bind (u := askedV m.group) (Ev.const (asked_f _)) ?_
    exact query23j m hm _ h17 (by simp [h])
theorem right9j (m : Msg) (hm : m.short) (x : Bool) (h17 : m.kind ≠ 17) (hx : x = decide m.plain) : Ev (fun k => igmp_Right.j0 k m.kind x m.kind m.ver m.code m.group m.quiet m.robust m.every m.srcs m.recs) (rightV m) := by
  refine Ev.succ (fun k => by simp only [igmp_Right.j0]; rfl) ?_
  unfold rightV
  refine Ev.ite (fun h => ?_) (fun h => ?_)
  · rw [hx, decide_eq_true_eq] at h
    have h34 : m.kind ≠ 34 := by unfold Msg.plain at h; omega
    rw [if_neg h34]
    refine Ev.bind (u := askedV m.group) (Ev.const (asked_f _)) ?_
    refine Ev.ite (fun h1 => ?_) (fun h1 => Ev.const ?_)
    · refine (Ev.same (same12 m ⟨m.kind, 0, 0, m.group, false, 0, 0, [], []⟩ hm)).val ?_
      rw [sameV_flat]
      by_cases hr : 0 < m.recs.length
      · have : ¬ m.recs.length = 0 := by omega
        rw [if_pos hr, decide_eq_false this, Bool.and_false]
      · have : m.recs.length = 0 := by omega
        rw [if_neg hr, if_pos h, h1]
        rw [Bool.eq_iff_iff]
        simp [this]
        grind
    · simp only [Bool.not_eq_true] at h1
      rw [if_pos h, h1]
      simp
  · rw [hx, decide_eq_true_eq] at h
    refine Ev.ite (fun h1 => ?_) (fun h1 => Ev.const ?_)
    · rw [if_pos h1]
      refine Ev.ite (fun h2 => ?_) (fun h2 => Ev.const ?_)
      · refine Ev.bind (u := m.recs.any oddRec) (Ev.const rfl) ?_
        have e2 : m.recs.length ≤ 32 := by omega
        refine Ev.ite (fun h3 => Ev.const ?_) (fun h3 => ?_)
        · simp only [h3, Bool.not_true, Bool.and_false]
        · simp only [Bool.not_eq_true] at h3
          refine (Ev.same (same12 m ⟨m.kind, 0, 0, 0, false, 0, 0, [], m.recs⟩ hm)).val ?_
          rw [sameV_recs, h3]
          rw [Bool.eq_iff_iff]
          simp [e2]
          grind
      · have e2 : ¬ m.recs.length ≤ 32 := by omega
        simp [e2]
    · rw [if_neg h1, if_neg h, if_neg h17]
      simp
theorem right9 (m : Msg) (hm : m.short) : Ev (fun k => igmp_Right.f k m.kind m.ver m.code m.group m.quiet m.robust m.every m.srcs m.recs) (rightV m) := by
  unfold igmp_Right.f
  refine Ev.ite (fun h => ?_) (fun h => Ev.ite (fun h1 => ?_) (fun h1 => Ev.ite (fun h2 => ?_) (fun h2 => ?_)))
  · exact Ev.same (query23 m hm h)
  · exact right9j m hm _ h (by simp [Msg.plain, h1])
  · exact right9j m hm _ h (by simp [Msg.plain, h2])
  · exact right9j m hm _ h (by by_cases e : m.kind = 23 <;> simp [Msg.plain, h1, h2, e])
end Go.Proofs.Ytafmjhmpnlkeiaa.P

namespace Go.Proofs.Ytafmjhmpnlkeiaa.P
open Go.RowKit Go.Proofs.YtafmjhmpnlkeiaaW.PrintWords Go.Proofs.YtafmjhmpnlkeiaaW.PrintLast Go.Proofs.YtafmjhmpnlkeiaaW.PrintMore
attribute [local go_sem] max2_int min2_int max_two min_two max_three min_three max_four min_four   -- for this text's walks alone
set_option linter.unusedVariables false
set_option linter.unusedSimpArgs false
/-! ### addr_part: function 43 -/
def addr_part.f (a0 : Int) (a1 : Int) : Option (Int) := if 0 ≤ (wrap64 (24 - (wrap64 (8 * a1)))) then (some ((shr .u32 a0 (wrap64 (24 - (wrap64 (8 * a1))))) % 256)) else (none)
set_option maxHeartbeats 8000000 in
set_option maxRecDepth 100000 in
theorem addr_part.calls (a0 : Int) (a1 : Int) (r : Int) (w : World) (h : addr_part.f a0 a1 = some r) :
    Calls Try.prog 43 #[.int .u32 a0, .int .i64 a1] w fun e w' => e = .returned (.int .u8 r) ∧ Drawn0 w w' := by
  have H : (if 0 ≤ (wrap64 (24 - (wrap64 (8 * a1)))) then (some ((shr .u32 a0 (wrap64 (24 - (wrap64 (8 * a1))))) % 256)) else (none)) = some r := h
  clear h
  obtain ⟨ji3, hji3⟩ : ∃ j_ : Int, (wrap64 (24 - (wrap64 (8 * a1)))) = j_ := ⟨_, rfl⟩
  replace H : (if 0 ≤ (ji3) then (some ((shr .u32 a0 (ji3)) % 256)) else (none)) = some r := by first | (rw [hji3] at H; exact H) | (simp only [hji3] at H ⊢; exact H)
  have hji3w : (IntKind.i64.wrap (24 - (wrap64 (8 * a1)))) = ji3 := (i64_w _).trans hji3
  by_cases c4 : 0 ≤ (ji3)
  · rw [if_pos c4] at H
    have c4b0 := eq_true c4
    have c4b1 : decide (0 ≤ (ji3)) = true := decide_eq_true c4
    clear c4
    obtain ⟨ji5, hji5⟩ : ∃ j_ : Int, (shr .u32 a0 (ji3)) = j_ := ⟨_, rfl⟩
    replace H : (some ((ji5) % 256)) = some r := by first | (rw [hji5] at H; exact H) | (simp only [hji5] at H ⊢; exact H)
    have hji5_ : (a0 / 2 ^ min (ji3).toNat 32) = ji5 := hji5
    have hji5z : (ji3) ≤ 32 → (a0 / 2 ^ (ji3).toNat) = ji5 := shr_small hji5
    obtain rfl := Option.some.inj H
    go_enter Try.func43, Try.ntmps43
    go_wp2
    go_ret
    exact ⟨by first | rfl | (simp; done) | (simp only [← hji3, ← hji5] <;> (first | rfl | simp)) | (simp [*]; done), by repeat (first | exact Drawn0.refl _ | apply Drawn0.step)⟩
  · rw [if_neg c4] at H
    exact absurd H (by simp)
end Go.Proofs.Ytafmjhmpnlkeiaa.P

namespace Go.Proofs.Ytafmjhmpnlkeiaa.P
open Go.RowKit Go.Proofs.YtafmjhmpnlkeiaaW.PrintWords Go.Proofs.YtafmjhmpnlkeiaaW.PrintLast Go.Proofs.YtafmjhmpnlkeiaaW.PrintMore
attribute [local go_sem] max2_int min2_int max_two min_two max_three min_three max_four min_four   -- for this text's walks alone
set_option linter.unusedVariables false
set_option linter.unusedSimpArgs false
/-! ### addr_Bytes: function 18 -/
def addr_Bytes.l0 : Nat → Int → List Int → Int → Int → Option (List Int)
  | 0, _, _, _, _ => none
  | k + 1, x0, x3, x7, x8 => if x8 < x7 then ((addr_part.f x0 x8).bind fun t115 => (if 0 ≤ x8 then (if x8 < (x3.length : Int) then (addr_Bytes.l0 k x0 (x3.set (x8 : Int).toNat t115) x7 (wrap64 (x8 + 1))) else (none)) else (none))) else (some x3)
def addr_Bytes.f (k : Nat) (a0 : Int) : Option (List Int) := if 4 ≤ 281474976710656 then ((some (List.replicate 4 0 : List Int)).bind fun y112 => (addr_Bytes.l0 k a0 y112 (y112.length : Int) 0)) else (none)
set_option maxHeartbeats 8000000 in
set_option maxRecDepth 100000 in
theorem addr_Bytes.calls (k : Nat) (a0 : Int) (r : List Int) (w : World) (h : addr_Bytes.f k a0 = some r) :
    Calls Try.prog 18 #[.int .u32 a0] w fun e w' => ∃ v0_ : Value, e = .returned (v0_) ∧ Kd.R (Kd.int .u8) 5 w' w.heap.size (fun _ => True) v0_ r ∧ Below w.heap.size w w' := by
  have HB := Aside0.mk (Below.refl w.heap.size w)
  have H : (if 4 ≤ 281474976710656 then ((some (List.replicate 4 0 : List Int)).bind fun y112 => (addr_Bytes.l0 k a0 y112 (y112.length : Int) 0)) else (none)) = some r := h
  clear h
  by_cases c2 : 4 ≤ 281474976710656
  · rw [if_pos c2] at H
    have c2b0 := eq_true c2
    have c2b1 : decide (4 ≤ 281474976710656) = true := decide_eq_true c2
    clear c2
    obtain ⟨y112, hy112⟩ : ∃ y_ : List Int, y_ = (List.replicate 4 0) := ⟨_, rfl⟩
    replace H : (addr_Bytes.l0 k a0 y112 (y112.length : Int) 0) = some r := by first | (rw [hy112]; with_reducible exact H) | (have H2_ := (Option.bind_some _ _).symm.trans H; rw [hy112]; with_reducible exact H2_) | (have H2_ := (Option.bind_some _ _).symm.trans H; with_reducible exact H2_) | with_reducible exact H | (rw [hy112]; exact H) | exact H
    have Ny112 := Aside0.mk hy112
    clear hy112
    have H' := Aside0.mk H
    clear H
    go_enter Try.func18, Try.ntmps18
    go_wp2_with (first | ((with_reducible refine gate_dst (N := 5) rfl ?_); refine Kd.R_make (Kd.int .u8) _ 5 rfl (N := 5) rfl 30 _ _ rfl 4 rfl rfl Try.underlying30 (.int .u8 0) 1 info5 rfl (by decide) (by omega) 0 (ok := fun _ => True) (okp := fun _ => True) rfl (fun _ hk => hk) trivial (by omega) (by omega) (Below.refl _ _) (Nat.le_refl _) ?_; intro v113 w3 ho4 hb hg_ hnew_; clear hg_ hnew_; (first | rw [← Ny112.out] at ho4 | (simp only [Int.reduceToNat] at ho4; rw [← Ny112.out] at ho4)); have n0_ := Aside0.mk (Kd.R_lower ho4 (below_size (by repeat (first | (with_reducible first | exact HB.out | apply below_alloc | apply pw_below_drewN | apply below_drew1) | exact HB.out)))); have n1_ := Aside0.mk (below_step (by repeat (first | (with_reducible first | exact HB.out | apply below_alloc | apply pw_below_drewN | apply below_drew1) | exact HB.out)) hb); clear HB; have HO114 := n0_; have HB := n1_; clear n0_ n1_; clear hb ho4; obtain ⟨Ao5, co5, eo5⟩ := Kd.R_slice HO114.out; subst eo5))
    go_loopg [8] k (fun kq v8 w' => ∃ (x3_1 : List Int) (x8_1 : Int), v8 = .int .i64 x8_1 ∧ Aside0 (addr_Bytes.l0 kq a0 x3_1 (y112.length : Int) x8_1 = some r) ∧ Aside0 (kq ≤ k) ∧ Aside0 (Kd.R (Kd.int .u8) 5 w' w.heap.size (fun _ => True) (.slice Ao5 y112.length co5) x3_1) ∧ Aside0 (Below w.heap.size w w'))
    case atStart => exact ⟨(y112), (0), (by first | rfl | (simp; done) | (simp [*]; done)), H', ⟨Nat.le_refl _⟩, ⟨by (with_reducible repeat (first | apply Kd.R_alloc | apply Kd.R_drewN | apply Kd.R_drew)); exact HO114.out⟩, ⟨by repeat (first | (with_reducible first | exact HB.out | apply below_alloc | apply pw_below_drewN | apply below_drew1) | exact HB.out)⟩⟩
    case round =>
      clear H'
      try clear c1
      try clear c2
      try clear c2b0
      try clear c2b1
      try clear p2
      obtain ⟨x3_1, x8_1, rfl, HA, HK1, HO_3, HB⟩ := hrel
      have hl3_1 := (Kd.R_reads' HO_3.out).1
      rw [hl3_1] at HO_3
      (try simp only [hl3_1])
      cases gk with
      | zero => exact absurd HA.out (by simp [addr_Bytes.l0])
      | succ k1 =>
        have H := HA.out
        clear HA
        simp only [addr_Bytes.l0] at H
        by_cases c6 : x8_1 < (y112.length : Int)
        · rw [if_pos c6] at H
          have c6b0 : decide (x8_1 < (y112.length : Int)) = true := decide_eq_true c6
          clear c6
          replace H := Option.bind_eq_some_iff.mp H
          obtain ⟨t115, A70, H⟩ := H
          replace H : (if 0 ≤ x8_1 then (if x8_1 < (x3_1.length : Int) then (addr_Bytes.l0 k1 a0 (x3_1.set (x8_1 : Int).toNat t115) (y112.length : Int) (wrap64 (x8_1 + 1))) else (none)) else (none)) = some r := H
          have A7 := Aside0.mk A70
          clear A70
          by_cases c8 : 0 ≤ x8_1
          · rw [if_pos c8] at H
            have c8b0 : decide (0 ≤ x8_1) = true := decide_eq_true c8
            clear c8
            by_cases c9 : x8_1 < (x3_1.length : Int)
            · rw [if_pos c9] at H
              have c9b0 : decide (x8_1 < (x3_1.length : Int)) = true := decide_eq_true c9
              clear c9
              obtain ⟨y116, hy116⟩ : ∃ y_ : List Int, y_ = (x3_1.set (x8_1 : Int).toNat t115) := ⟨_, rfl⟩
              replace H : (addr_Bytes.l0 k1 a0 y116 (y112.length : Int) (wrap64 (x8_1 + 1))) = some r := by first | (rw [hy116]; with_reducible exact H) | (have H2_ := (Option.bind_some _ _).symm.trans H; rw [hy116]; with_reducible exact H2_) | (have H2_ := (Option.bind_some _ _).symm.trans H; with_reducible exact H2_) | with_reducible exact H | (rw [hy116]; exact H) | exact H
              have Ny116 := Aside0.mk hy116
              clear hy116
              have H' := Aside0.mk H
              clear H
              go_wp2_with (first | ((with_reducible refine gate_callee (f := 43) rfl ?_); refine goesL_ (some 15) rfl rfl Try.func43 (by kernel_rfl) rfl #[.int .u32 a0, .int .i64 x8_1] rfl (by (try simp only [List.map_toArray, List.map_cons, List.map_nil]); first | done | rfl | (simp only [List.length_drop, List.length_take]; rfl)) ?_; (with_reducible refine (addr_part.calls a0 x8_1 t115 _ A7.out).mono ?_); rintro e w' ⟨rfl, ⟨nd, rfl⟩⟩; refine ⟨_, rfl, ?_⟩; (try (rw [drewN_self wr]; generalize hq_ : World.drewN wr _ = wr; have n0_ : Aside0 (Kd.R (Kd.int .u8) 5 wr w.heap.size (fun _ => True) (.slice Ao5 x3_1.length co5) x3_1) := ⟨by rw [← hq_]; exact (by (with_reducible repeat (first | apply Kd.R_alloc | apply Kd.R_drewN | apply Kd.R_drew)); exact HO_3.out)⟩; have n1_ : Aside0 (Below w.heap.size w wr) := ⟨by rw [← hq_]; exact (by repeat (first | (with_reducible first | exact HB.out | apply below_alloc | apply pw_below_drewN | apply below_drew1) | exact HB.out))⟩; clear HO_3 HB hq_; have HO_3 := n0_; have HB := n1_; clear n0_ n1_)); have p10 : 0 ≤ (x8_1 : Int) := of_decide_eq_true (by first | (with_reducible assumption) | assumption); have q10 : (x8_1 : Int) < ((x3_1.length : Int) : Int) := of_decide_eq_true (by first | (with_reducible assumption) | assumption); obtain ⟨go10, co10, eo10, gb10, gl10, cl10, HG10⟩ := Kd.R_form HO_3.out (by omega); (first | cases eo10 | (injection eo10 with ea_ en_ ec_; (first | subst ea_ | (injection ea_ with ea_; subst ea_)); subst ec_; clear en_)); have GB10 := Aside0.mk gb10; have GG10 := Aside0.mk HG10; clear gb10 gl10 HG10; obtain ⟨hx10_0, hf10_0⟩ := Kd.R_celln 0 HO_3.out (x8_1 : Int) p10 q10; replace p10 := eq_true p10; replace q10 := eq_true q10; obtain ⟨hy11_, hz11_⟩ := Kd.R_celln 0 HO_3.out (x8_1 : Int) (of_decide_eq_true (by first | (with_reducible assumption) | assumption)) (of_decide_eq_true (by first | (with_reducible assumption) | assumption)); have HP11 := Kd.R_putg HO_3.out (x8_1 : Int) t115) | ((with_reducible refine gate_store (t := 5) (p := 16) rfl ?_); refine store_event (t := 5) (p := 16) (v := ?vo_w12) (w1 := (wr.setCell ⟨go10, (x8_1 : Int).toNat, none⟩ (.int .u8 t115))) ?hg ?ho ?hn ?hr ?_; (case ho => rfl); (case hg => rfl); (case hn => rfl); (case hr => first | (go_simp; done) | (go_simp; rfl)); intro w12 hw; have hg : wr.grownBy w12 (some go10) := (by rw [hw]; exact HP11.2); have hp_ : Kd.R (Kd.int .u8) 5 w12 w.heap.size (fun _ => True) (.slice (some ⟨go10, 0, none⟩) x3_1.length co5) y116 := (by rw [hw, Ny116.out]; exact HP11.1); clear HP11; have n0_ := Aside0.mk (hp_); have n1_ := Aside0.mk ((by rw [hw]; exact below_set (HB.out) GB10.out : Below w.heap.size w w12)); clear HO_3; clear HB; have HO_3 := n0_; have HB := n1_; clear n0_ n1_; clear hg hw hp_))
              (try simp only [← hl3_1])
              go_roundg k1
              case measure => have := HK1.out; omega
              case rel => exact ⟨(y116), (wrap64 (x8_1 + 1)), (by first | rfl | (simp; done) | (simp [*]; done)), H', ⟨by have := HK1.out; omega⟩, ⟨by (try simp only [hl3_1]); (with_reducible repeat (first | apply Kd.R_alloc | apply Kd.R_drewN | apply Kd.R_drew)); exact HO_3.out⟩, ⟨by repeat (first | (with_reducible first | exact HB.out | apply below_alloc | apply pw_below_drewN | apply below_drew1) | exact HB.out)⟩⟩
            · rw [if_neg c9] at H
              exact absurd H (by simp)
          · rw [if_neg c8] at H
            exact absurd H (by simp)
        · rw [if_neg c6] at H
          have c6b0 : decide (x8_1 < (y112.length : Int)) = false := decide_eq_false c6
          have c6b1 : decide (x8_1 < (x3_1.length : Int)) = false := by first | (rw [hl3_1] at c6b0; exact c6b0) | (rw [← hl3_1] at c6b0; exact c6b0) | exact c6b0
          clear c6
          obtain rfl := Option.some.inj H
          go_wp2
          go_ret
          exact ⟨_, by first | rfl | (simp [errW_none, errW_some] <;> rfl) | (simp [*, errW_none, errW_some] <;> rfl), by (with_reducible repeat (first | apply Kd.R_alloc | apply Kd.R_drewN | apply Kd.R_drew)); exact HO_3.out, by repeat (first | (with_reducible first | exact HB.out | apply below_alloc | apply pw_below_drewN | apply below_drew1) | exact HB.out)⟩
  · rw [if_neg c2] at H
    exact absurd H (by simp)
end Go.Proofs.Ytafmjhmpnlkeiaa.P

namespace Go.Proofs.Ytafmjhmpnlkeiaa.P
open Go.RowKit Go.Proofs.YtafmjhmpnlkeiaaW.PrintWords Go.Proofs.YtafmjhmpnlkeiaaW.PrintLast Go.Proofs.YtafmjhmpnlkeiaaW.PrintMore
set_option linter.unusedVariables false
set_option linter.unusedSimpArgs false
/-- A row of bytes in a block that has just been made. -/
theorem C_new8 (W : World) (l : List Int) (hl : l.length ≤ 140737488355328) : Kd.C (Kd.int .u8) (W.alloc (.cells (l.map (Value.int .u8)).toArray 5)) (some ⟨W.heap.size, 0, none⟩) l.length l := by
  refine ⟨rfl, by omega, fun _ => ⟨_, rfl, fun j p hj => ⟨[.int .u8 p], rfl, rfl, fun i u hi => ?_⟩⟩⟩
  have hjl : j < l.length := (List.getElem?_eq_some_iff.1 hj).1
  obtain rfl : i = 0 := by
    have := (List.getElem?_eq_some_iff.1 hi).1
    simpa using this
  obtain rfl : Value.int .u8 p = u := by simpa using hi
  rw [add_plain, World.cell?_alloc_at _ _ _ _ rfl]
  show ((l.map (Value.int .u8)).toArray)[j * 1 + 0]? = _
  rw [Nat.mul_one, Nat.add_zero]
  simp [hj]
/-- A writer at block g, made since w0: it has laid xs, in a block of S's. -/
def Wr (w0 W : World) (g : Nat) (S : Nat → Prop) (xs : List Int) : Prop :=
  ∃ v, W.heap[g]? = some (.cells #[v] 47 (0, 0)) ∧ Kd.R (Kd.int .u8) 5 W w0.heap.size S v xs ∧ w0.heap.size ≤ g ∧ Below w0.heap.size w0 W
theorem Wr.below {w0 W W' : World} {g : Nat} {S : Nat → Prop} {xs : List Int} (h : Wr w0 W g S xs) (hb : Below W.heap.size W W') : Wr w0 W' g S xs := by
  obtain ⟨v, h1, h2, h3, h4⟩ := h
  exact ⟨v, (hb.block _ (Array.getElem?_eq_some_iff.1 h1).1).trans h1, Kd.R_below h2 hb, h3, h4.trans (hb.mono h4.size)⟩
theorem Wr.mono {w0 W : World} {g : Nat} {S S' : Nat → Prop} {xs : List Int} (h : Wr w0 W g S xs) (hs : ∀ k, S k → S' k) : Wr w0 W g S' xs := by
  obtain ⟨v, h1, h2, h3, h4⟩ := h
  exact ⟨v, h1, Kd.R_mono h2 hs, h3, h4⟩
theorem Wr.bound {w0 W : World} {g : Nat} {S : Nat → Prop} {xs : List Int} (h : Wr w0 W g S xs) : Wr w0 W g (fun k => k < W.heap.size ∧ k ≠ g) xs := by
  obtain ⟨v, h1, h2, h3, h4⟩ := h
  refine ⟨v, h1, Kd.R_mono (Kd.R_types (Kd.R_bound h2) h1 (by decide)) (fun k hk => ⟨hk.1.2.2.1, hk.2⟩), h3, h4⟩
theorem Wr.w0 {w0 W : World} {g : Nat} {S : Nat → Prop} {xs : List Int} (h : Wr w0 W g S xs) : Below w0.heap.size w0 W := by
  obtain ⟨v, h1, h2, h3, h4⟩ := h
  exact h4
theorem Wr.lt {w0 W : World} {g : Nat} {S : Nat → Prop} {xs : List Int} (h : Wr w0 W g S xs) : g < W.heap.size := by
  obtain ⟨v, h1, h2, h3, h4⟩ := h
  exact (Array.getElem?_eq_some_iff.1 h1).1
set_option maxHeartbeats 1000000 in
set_option maxRecDepth 100000 in
theorem lay16 (w0 w : World) (g : Nat) (S : Nat → Prop) (xs : List Int) (A : Option Addr) (c : Nat) (l : List Int) (hW : Wr w0 w g S xs) (hr : Kd.C (Kd.int .u8) w A l.length l) (hlim : xs.length + l.length ≤ 140737488355328) :
    Calls Try.prog 16 #[.pointer (some ⟨g, 0, none⟩), .slice A l.length c] w fun e w' => e = .returned (.tuple #[]) ∧ Wr w0 w' g (fun k => S k ∨ w.heap.size ≤ k) (xs ++ l) ∧ Kept w w' (fun k => S k ∨ k = g) := by
  obtain ⟨v, h1, h2, h3, h4⟩ := hW
  obtain ⟨A0, c0, rfl⟩ := Kd.R_slice h2
  obtain ⟨k1, k2⟩ := one_cell h1
  have H1 := Aside0.mk h1
  have H2 := Aside0.mk h2
  have H4 := Aside0.mk h4
  have HR := Aside0.mk hr
  clear h1 h2 h4 hr
  go_enter Try.func16, Try.ntmps16
  go_wp2_with (at_builtin; refine Kd.R_append_rows (Kd.int .u8) w0.heap.size rfl (.tmp 8) (.tmp 9) 30 5 (.int .u8 0) 1 rfl Try.underlying30 info5 rfl (by decide) (by decide) (.slice A0 xs.length c0) xs l A l.length c (fun k => S k ∨ w.heap.size ≤ k) (fun _ => False) rfl rfl (Kd.R_mono H2.out (fun _ h => .inl h)) HR.out (fun _ _ h => h) (fun _ h => h.elim) (fun _ h => .inr h) H4.out H4.out.size (by omega) ?_; intro v1 w1 r1 b1 g1 _; obtain ⟨A1, c1, rfl⟩ := Kd.R_slice r1; rw [List.length_append] at r1; have hne := Kd.R_ne H2.out H1.out (by decide); have n1 := (g1.block _ (Array.getElem?_eq_some_iff.1 H1.out).1 hne).trans H1.out; have G1 := Aside0.mk g1; have R1 := Aside0.mk r1; have B1 := Aside0.mk b1; have N1 := Aside0.mk n1; obtain ⟨m1, m2⟩ := one_cell n1; clear r1 b1 g1 n1 hne)
  go_end0
  refine ⟨rfl, ⟨_, one_set N1.out _, Kd.R_set R1.out N1.out (by decide) 0 _, h3, B1.out.setCell (p := ⟨g, 0, none⟩) h3 _⟩, ?_⟩
  exact Kept.setCell (Kept.of_grown G1.out (Kept.refl _ _) (fun k e => .inl (.inl (H2.out.1 k e)))) (p := ⟨g, 0, none⟩) (.inl (.inr rfl)) _
/-- An address's four bytes. -/
def addrBytes (a : Int) : List Int := (addr_Bytes.f 5 a).getD []
theorem part_some (a : Int) (i : Nat) (hi : i < 4) : ∃ r, addr_part.f a (i : Int) = some r := by
  unfold addr_part.f
  rw [if_pos (by unfold wrap64; omega)]
  exact ⟨_, rfl⟩
theorem bytes_l0 (a : Int) (d : Nat) : ∀ (k x : Nat) (l : List Int), 4 - x = d → x ≤ 4 → d < k → l.length = 4 → ∃ r, addr_Bytes.l0 k a l 4 (x : Int) = some r ∧ r.length = 4 := by
  induction d with
  | zero =>
    intro k x l hd hx hk hl
    obtain ⟨k, rfl⟩ : ∃ m, k = m + 1 := ⟨k - 1, by omega⟩
    exact ⟨l, by simp only [addr_Bytes.l0]; rw [if_neg (by omega)], hl⟩
  | succ d ih =>
    intro k x l hd hx hk hl
    obtain ⟨k, rfl⟩ : ∃ m, k = m + 1 := ⟨k - 1, by omega⟩
    obtain ⟨p, hp⟩ := part_some a x (by omega)
    simp only [addr_Bytes.l0]
    rw [if_pos (by omega), hp]
    simp only [Option.bind_some]
    rw [if_pos (by omega), if_pos (by omega), wrap_succ x 4 (by omega) (by omega)]
    exact ih k (x + 1) _ (by omega) (by omega) (by omega) (by rw [List.length_set]; exact hl)
theorem bytes_ex (a : Int) : ∃ r, addr_Bytes.f 5 a = some r ∧ r.length = 4 := by
  unfold addr_Bytes.f
  rw [if_pos (by omega)]
  simp only [Option.bind_some]
  exact bytes_l0 a 4 5 0 _ (by omega) (by omega) (by omega) (by simp)
theorem addrBytes_f (a : Int) : addr_Bytes.f 5 a = some (addrBytes a) := by
  obtain ⟨r, h, _⟩ := bytes_ex a
  unfold addrBytes
  rw [h]
  rfl
theorem addrBytes_length (a : Int) : (addrBytes a).length = 4 := by
  obtain ⟨r, h, hl⟩ := bytes_ex a
  unfold addrBytes
  rw [h]
  exact hl
def layAddrs (l : List Int) : List Int := l.flatMap addrBytes
theorem layAddrs_length (l : List Int) : (layAddrs l).length = 4 * l.length := by
  induction l with
  | nil => rfl
  | cons a l ih =>
    show (addrBytes a ++ layAddrs l).length = _
    rw [List.length_append, ih, addrBytes_length, List.length_cons]
    omega
theorem layAddrs_take (l : List Int) (x : Nat) (h : x < l.length) : layAddrs (l.take (x + 1)) = layAddrs (l.take x) ++ addrBytes l[x] := by
  unfold layAddrs
  rw [List.take_succ_eq_append_getElem h, List.flatMap_append]
  simp
def lenBytes (l : List Int) : List Int := [(l.length : Int) / 256 % 256, (l.length : Int) % 256]
set_option maxHeartbeats 2000000 in
set_option maxRecDepth 100000 in
theorem addrs17 (w0 w : World) (g : Nat) (S : Nat → Prop) (xs : List Int) (A : Option Addr) (c : Nat) (gr : List Int) (B : Option Addr) (d : Nat) (l : List Int) (hW : Wr w0 w g S xs) (hS : ∀ k, S k → k < w.heap.size) (hg : ∀ W', Kept w W' (fun k => S k ∨ k = g) → Kd.C (Kd.int .u8) W' A gr.length gr) (hgr : gr.length ≤ 4)
    (hl : Kd.C (Kd.int .u32) w0 B l.length l) (hlim : xs.length + 4 * l.length + 6 ≤ 140737488355328) :
    Calls Try.prog 17 #[.pointer (some ⟨g, 0, none⟩), .slice A gr.length c, .slice B l.length d] w fun e w' => e = .returned (.tuple #[]) ∧ Wr w0 w' g (fun _ => True) (xs ++ (lenBytes l ++ gr) ++ layAddrs l) := by
  have HW := Aside0.mk hW
  have HG := Aside0.mk hg
  have HL := Aside0.mk hl
  have HS := Aside0.mk hS
  have hn : l.length ≤ 140737488355328 := by omega
  clear hW hg hl hS
  go_enter Try.func17, Try.ntmps17
  go_wp2_with fail
  refine (lay16 w0 _ g S xs (some ⟨w.heap.size, 0, none⟩) 2 (lenBytes l) (HW.out.below (below_alloc (Below.refl _ _) _)) (C_new8 w (lenBytes l) (by simp [lenBytes])) (by simp [lenBytes]; omega)).mono ?_
  rintro e w1 ⟨rfl, hW1, hk1⟩
  have hgw := HG.out w1 (Kept.then_ (Kept.of_below (below_alloc (Below.refl _ w) (.cells ((lenBytes l).map (Value.int .u8)).toArray 5)) _) hk1 (fun _ h => .inl h))
  have HW1 := Aside0.mk hW1
  have HG1 := Aside0.mk hgw
  clear hW1 hk1 hgw
  go_wp2_with fail
  refine (lay16 w0 _ g _ (xs ++ lenBytes l) A c gr HW1.out HG1.out (by simp [lenBytes]; omega)).mono ?_
  rintro e w2 ⟨rfl, hW2, _⟩
  have HW2 := Aside0.mk (hW2.mono (S' := fun _ => True) (fun _ _ => trivial))
  clear hW2
  go_wp2
  go_loopw [23] (fun v wr => ∃ x : Nat, v = .int .i64 x ∧ x ≤ l.length ∧ Aside0 (Wr w0 wr g (fun _ => True) (xs ++ lenBytes l ++ gr ++ layAddrs (l.take x)))) (fun v _ => l.length - (intOf v).toNat)
  case atStart => exact ⟨0, rfl, by omega, ⟨by simpa [layAddrs] using HW2.out⟩⟩
  case round =>
    clear HW2 HW1 HG1 HW HG
    obtain ⟨x, rfl, hx, HX⟩ := hrel
    by_cases hlt : x < l.length
    · obtain ⟨ad0, rfl, p0⟩ := Kd.at_int (Kd.C_below HL.out HX.out.w0) (x : Int) (by omega) (by omega)
      simp only [Int.toNat_natCast] at p0
      rw [rd_eq l x hlt] at p0
      obtain ⟨a, ha⟩ : ∃ a, l[x] = a := ⟨_, rfl⟩
      rw [ha] at p0
      have HA := Aside0.mk ha
      clear ha
      go_wp2_with fail
      refine (addr_Bytes.calls 5 a (addrBytes a) _ (addrBytes_f a)).mono ?_
      rintro e w3 ⟨v0, rfl, hv, hb⟩
      obtain ⟨A3, c3, rfl, _, hC⟩ := Kd.R_reads hv
      have HX3 := Aside0.mk (HX.out.below hb)
      have HC3 := Aside0.mk hC
      clear hv hb hC p0
      go_wp2_with fail
      have hlen := addrBytes_length a
      have hlx := layAddrs_length (l.take x)
      rw [List.length_take] at hlx
      refine (lay16 w0 _ g _ _ A3 c3 (addrBytes a) HX3.out HC3.out (by simp only [List.length_append, lenBytes, List.length_cons, List.length_nil]; omega)).mono ?_
      rintro e w4 ⟨rfl, hW4, _⟩
      have HW4 := Aside0.mk (hW4.mono (S' := fun _ => True) (fun _ _ => trivial))
      clear hW4 hlen hlx
      go_wp2
      go_roundw
      case measure => simp [intOf]; omega
      case rel => exact ⟨x + 1, by go_num, by omega, ⟨by rw [layAddrs_take l x hlt, HA.out, ← List.append_assoc]; exact HW4.out⟩⟩
    · go_wp2
      go_end0
      refine ⟨rfl, ?_⟩
      have h := HX.out
      rw [List.take_of_length_le (by omega)] at h
      simpa using h
end Go.Proofs.Ytafmjhmpnlkeiaa.P

namespace Go.Proofs.Ytafmjhmpnlkeiaa.P
open Go.RowKit Go.Proofs.YtafmjhmpnlkeiaaW.PrintWords Go.Proofs.YtafmjhmpnlkeiaaW.PrintLast Go.Proofs.YtafmjhmpnlkeiaaW.PrintMore
set_option linter.unusedVariables false
set_option linter.unusedSimpArgs false
def vals8 (l : List Int) : Array Value := (l.map (Value.int .u8)).toArray
/-- A block of bytes, known whole. -/
def Blk8 (W : World) (g : Nat) (l : List Int) : Prop := W.heap[g]? = some (.cells (vals8 l) 5 (0, 0))
theorem Blk8.cell {W : World} {g : Nat} {l : List Int} (h : Blk8 W g l) (j : Nat) (hj : j < l.length) : W.cell? ⟨g, j, none⟩ = some (.int .u8 (l.getD j 0)) := by
  simp only [World.cell?, Blk8] at h ⊢
  rw [h]
  simp [vals8, hj]
theorem Blk8.frozen {W : World} {g : Nat} {l : List Int} (h : Blk8 W g l) (j : Nat) : W.frozen? ⟨g, j, none⟩ = false := by
  simp only [World.frozen?, Blk8] at h ⊢
  rw [h]
  simp
theorem Blk8.set {W : World} {g : Nat} {l : List Int} (h : Blk8 W g l) (j : Nat) (x : Int) : Blk8 (W.setCell ⟨g, j, none⟩ (.int .u8 x)) g (l.set j x) := by
  simp only [Blk8, World.setCell] at h ⊢
  rw [Array.getElem?_modify]
  simp [h, vals8, List.map_set]
theorem Blk8.below {W W' : World} {g : Nat} {l : List Int} (h : Blk8 W g l) (hb : Below W.heap.size W W') : Blk8 W' g l := (hb.block _ (Array.getElem?_eq_some_iff.1 h).1).trans h
theorem Blk8.C {W : World} {g : Nat} {l : List Int} (h : Blk8 W g l) (hl : l.length ≤ 140737488355328) : Kd.C (Kd.int .u8) W (some ⟨g, 0, none⟩) l.length l := by
  refine ⟨rfl, by omega, fun _ => ⟨_, rfl, fun j p hj => ⟨[.int .u8 p], rfl, rfl, fun i u hi => ?_⟩⟩⟩
  have hjl : j < l.length := (List.getElem?_eq_some_iff.1 hj).1
  obtain rfl : i = 0 := by
    have := (List.getElem?_eq_some_iff.1 hi).1
    simpa using this
  obtain rfl : Value.int .u8 p = u := by simpa using hi
  rw [add_plain]
  show W.cell? ⟨g, j * 1 + 0, none⟩ = _
  rw [Nat.mul_one, Nat.add_zero, h.cell j hjl]
  simp [List.getD_eq_getElem?_getD, hj]
theorem Blk8.R {W : World} {g base : Nat} {l : List Int} (h : Blk8 W g l) (hg : base ≤ g) (hl : l.length ≤ 140737488355328) : Kd.R (Kd.int .u8) 5 W base (fun _ => True) (.slice (some ⟨g, 0, none⟩) l.length l.length) l := by
  refine Kd.R_of_own (enc := Value.int .u8) (h1 := fun _ => rfl) ⟨by simp [encs], .inr ⟨g, l.length, vals8 l, rfl, hg, h, Nat.le_refl _, by unfold maxLen; omega, by simp [vals8], by simp [vals8, encs, List.take_of_length_le]⟩⟩ (fun _ _ => trivial)
theorem okBytes_set {l : List Int} (h : okBytes l = true) (j : Nat) (x : Int) (h0 : 0 ≤ x) (h1 : x ≤ 255) : okBytes (l.set j x) = true := by
  unfold okBytes at *
  rw [List.all_eq_true] at *
  intro y hy
  rcases List.mem_or_eq_of_mem_set hy with h2 | rfl
  · exact h y h2
  · simp [h0, h1]
theorem made_size (n : Nat) : (madeCells #[Value.int .u8 0] n).size = n := by
  simp [madeCells]
theorem made_heap (w : World) (n : Nat) : (w.alloc (.cells (madeCells #[.int .u8 0] n) 5)).heap[w.heap.size]? = some (.cells (madeCells #[.int .u8 0] n).toList.toArray 5 (0, 0)) := by
  rw [Array.toArray_toList]
  exact World.alloc_heap_new w _
theorem made_splice {w1 : World} {g n : Nat} {l : List Int} (hs : (madeCells #[.int .u8 0] n).size = n) (h : Hid (w1.heap[g]? = some (.cells (splice (madeCells #[.int .u8 0] n).toList 0 (l.map (Value.int .u8))).toArray 5 (0, 0)))) (hl : l.length = n := by rfl) : Blk8 w1 g l := by
  have h2 := h.out
  unfold Blk8 vals8
  rw [h2]
  congr 3
  unfold splice
  simp [hl, hs]
theorem of44n (ad : Addr) (c0 n : Nat) (l0 : List Int) (w : World) (hn : l0.length = n) (hr0 : Kd.C (Kd.int .u8) w (some ad) n l0) (hc0 : n ≤ c0) (hcap : n ≤ 140737488355328) (hb : okBytes l0 = true) (h1 : 0 < n) :
    Calls Try.prog 44 #[.slice (some ad) n c0] w fun e w' => e = .returned (.int .u16 (turned16 (sum16 (wordsOf l0)))) ∧ Below w.heap.size w w' := by
  subst hn
  exact of44 ad c0 l0 w hr0 hc0 hcap (bytesOk_of hb) h1
def put2 (l : List Int) : List Int :=
  (((l.set 2 0).set 3 0).set 2 (turned16 (sum16 (wordsOf ((l.set 2 0).set 3 0))) / 256 % 256)).set 3 (turned16 (sum16 (wordsOf ((l.set 2 0).set 3 0))) % 256)
def sum_Put.f (l0 : List Int) (a1 : Int) : Option (List Int × Int) := if okBytes l0 = true ∧ a1 = 2 ∧ 4 ≤ l0.length ∧ l0.length ≤ 140737488355328 then some (put2 l0, 0) else none
set_option maxHeartbeats 2000000 in
set_option maxRecDepth 100000 in
theorem put19 (A0 : Option Addr) (c0 : Nat) (l0 : List Int) (w : World) (hr0 : Kd.C (Kd.int .u8) w A0 l0.length l0) (hc0 : l0.length ≤ c0) (hok : okBytes l0 = true) (h4 : 4 ≤ l0.length) (hl : l0.length ≤ 140737488355328) :
    Calls Try.prog 19 #[.slice A0 l0.length c0, .int .i64 2] w fun e w' => ∃ v0_ : Value, e = .returned (.tuple #[v0_, .int .i64 0]) ∧ Kd.R (Kd.int .u8) 5 w' w.heap.size (fun _ => True) v0_ (put2 l0) ∧ Below w.heap.size w w' := by
  have HR := Aside0.mk hr0
  have HOK := Aside0.mk hok
  have hmk := print_make (P := Try.prog) 30 5 .u8 1 Try.underlying30 info5 (by decide) l0.length (by omega)
  clear hr0 hok
  go_enter Try.func19, Try.ntmps19
  have hsz : (madeCells #[.int .u8 0] l0.length).size = l0.length := made_size l0.length
  have hcs : ∀ ad, A0 = some ad → ∀ j v, ((l0.map (Value.int .u8))[j]? = some v) → w.cell? (ad.add j) = some v := by
    rintro ad rfl j v hj
    have hjl : j < l0.length := by have := (List.getElem?_eq_some_iff.1 hj).1; simpa using this
    obtain ⟨ad', e, hc⟩ := Kd.at_int HR.out (j : Int) (by omega) (by omega)
    obtain rfl := Option.some.inj e
    simp only [Int.toNat_natCast] at hc
    rw [hc, rd_eq l0 j hjl, ← hj]
    simp [hjl]
  have HCS := Aside0.mk hcs
  have HSZ := Aside0.mk hsz
  have HF : Aside0 (0 + (l0.map (Value.int .u8)).length ≤ (madeCells #[Value.int .u8 0] l0.length).toList.length) := ⟨by have h := hsz; rw [← Array.length_toList] at h; rw [List.length_map]; omega⟩
  have H1C : Aside0 (∀ v ∈ l0.map (Value.int .u8), v.oneCell' = true) := ⟨by intro v hv; obtain ⟨x, _, rfl⟩ := List.mem_map.1 hv; rfl⟩
  have HN : Aside0 ((l0.map (Value.int .u8)).length = Nat.min l0.length l0.length) := ⟨by rw [List.length_map]; exact (Nat.min_self _).symm⟩
  obtain ⟨ad0, had0⟩ : ∃ ad, A0 = some ad := by
    obtain ⟨ad, e, _⟩ := Kd.at_int HR.out (0 : Int) (by omega) (by omega)
    exact ⟨ad, e⟩
  have HA := Aside0.mk had0
  clear had0 hsz hcs
  go_wp2_with ((with_reducible refine gate_builtin (b := .copy) rfl ?_); refine wpList_copy_splice rfl (.tmp 25) (.tmp 26) 30 30 rfl 5 Try.underlying30 (by kernel_rfl) (some ⟨w.heap.size, 0, none⟩) A0 l0.length l0.length l0.length c0 rfl rfl w.heap.size 0 (madeCells #[.int .u8 0] l0.length).toList 5 (made_heap w l0.length) (l0.map (Value.int .u8)) HN.out (fun _ => ⟨rfl, ad0, HA.out, fun j v hj => pw_cell_below (below_alloc (Below.refl _ w) _) (HCS.out _ HA.out j v hj)⟩) HF.out H1C.out w.heap.size w (below_alloc (Below.refl _ w) _) (Nat.le_refl _) ?_; intro w1 hw1 hb1; have B1 := Aside0.mk (made_splice HSZ.out hw1); have HB1 := Aside0.mk hb1; have e2 := B1.out.cell 2 (by omega); have e3 := B1.out.cell 3 (by omega); have f2 := B1.out.frozen 2; have f3 := B1.out.frozen 3; clear hw1 hb1)
  have hl2 : ((l0.set 2 0).set 3 0).length = l0.length := by rw [List.length_set, List.length_set]
  have b2 := (B1.out.set 2 0).set 3 0
  obtain ⟨o, ho⟩ : ∃ o, (l0.set 2 0).set 3 0 = o := ⟨_, rfl⟩
  rw [ho] at b2 hl2
  have hok2 : okBytes o = true := by rw [← ho]; exact okBytes_set (okBytes_set HOK.out 2 0 (by omega) (by omega)) 3 0 (by omega) (by omega)
  have HO := Aside0.mk ho
  have B2 := Aside0.mk b2
  have hb2 := Aside0.mk ((HB1.out.setCell (p := ⟨w.heap.size, 2, none⟩) (Nat.le_refl _) (.int .u8 0)).setCell (p := ⟨w.heap.size, 3, none⟩) (Nat.le_refl _) (.int .u8 0))
  clear ho b2 e2 e3 f2 f3
  refine (of44n ⟨w.heap.size, 0, none⟩ l0.length l0.length o _ hl2 (by rw [← hl2]; exact B2.out.C (by omega)) (Nat.le_refl _) hl hok2 (by omega)).mono ?_
  rintro e w3 ⟨rfl, hb3⟩
  have b3 := B2.out.below hb3
  have HB3 := Aside0.mk (hb2.out.trans (hb3.mono hb2.out.size))
  obtain ⟨s, hs⟩ : ∃ s, turned16 (sum16 (wordsOf o)) = s := ⟨_, rfl⟩
  rw [hs]
  have Hs := Aside0.mk hs
  have HL2 := Aside0.mk hl2
  have e2 := b3.cell 2 (by omega)
  have e3 := b3.cell 3 (by omega)
  have f2 := b3.frozen 2
  have f3 := b3.frozen 3
  have B3 := Aside0.mk b3
  clear b3 hb3 hs hl2
  go_wp2
  go_ret2
  have b4 := (B3.out.set 2 (s / 256 % 256)).set 3 (s % 256)
  have hl4 : ((o.set 2 (s / 256 % 256)).set 3 (s % 256)).length = l0.length := by rw [List.length_set, List.length_set, HL2.out]
  have hR := Kd.R_lower (b4.R (base := w.heap.size) (Nat.le_refl _) (by omega)) (Nat.le_refl _)
  rw [hl4] at hR
  have hp : put2 l0 = (o.set 2 (s / 256 % 256)).set 3 (s % 256) := by
    unfold put2
    rw [HO.out, Hs.out]
  rw [hp]
  exact ⟨_, rfl, hR, (HB3.out.setCell (p := ⟨w.heap.size, 2, none⟩) (Nat.le_refl _) _).setCell (p := ⟨w.heap.size, 3, none⟩) (Nat.le_refl _) _⟩
theorem sum_Put.calls (A0 : Option Addr) (c0 : Nat) (l0 : List Int) (a1 : Int) (r1 : List Int) (r2 : Int) (w : World) (hr0 : Kd.C (Kd.int .u8) w A0 l0.length l0) (hc0 : l0.length ≤ c0) (h : sum_Put.f l0 a1 = some (r1, r2)) :
    Calls Try.prog 19 #[.slice A0 l0.length c0, .int .i64 a1] w fun e w' => ∃ v0_ : Value, e = .returned (.tuple #[v0_, .int .i64 r2]) ∧ Kd.R (Kd.int .u8) 5 w' w.heap.size (fun _ => True) v0_ r1 ∧ Below w.heap.size w w' := by
  unfold sum_Put.f at h
  by_cases hc : okBytes l0 = true ∧ a1 = 2 ∧ 4 ≤ l0.length ∧ l0.length ≤ 140737488355328
  · rw [if_pos hc] at h
    simp only [Option.some.injEq, Prod.mk.injEq] at h
    obtain ⟨rfl, rfl⟩ := h
    obtain ⟨h1, rfl, h3, h4⟩ := hc
    exact put19 A0 c0 l0 w hr0 hc0 h1 h3 h4
  · rw [if_neg hc] at h
    cases h
end Go.Proofs.Ytafmjhmpnlkeiaa.P

namespace Go.Proofs.Ytafmjhmpnlkeiaa.P
open Go.RowKit Go.Proofs.YtafmjhmpnlkeiaaW.PrintWords Go.Proofs.YtafmjhmpnlkeiaaW.PrintLast Go.Proofs.YtafmjhmpnlkeiaaW.PrintMore
set_option linter.unusedVariables false
set_option linter.unusedSimpArgs false
def recBytes (r : S44) : List Int := [r.f0, 0] ++ ([] ++ (lenBytes r.f2 ++ addrBytes r.f1) ++ layAddrs r.f2)
def recsBytes (l : List S44) : List Int := l.flatMap recBytes
theorem recsBytes_take (l : List S44) (x : Nat) (h : x < l.length) : recsBytes (l.take (x + 1)) = recsBytes (l.take x) ++ recBytes l[x] := by
  unfold recsBytes
  rw [List.take_succ_eq_append_getElem h, List.flatMap_append]
  simp
theorem recBytes_length (r : S44) : (recBytes r).length = 8 + 4 * r.f2.length := by
  have h1 := addrBytes_length r.f1
  have h2 := layAddrs_length r.f2
  simp [recBytes, lenBytes, h1, h2]
  omega
theorem recs_len (l : List S44) (x : Nat) (h : x < l.length) : (recsBytes (l.take x)).length + (recBytes l[x]).length ≤ (recsBytes l).length := by
  have h1 := congrArg List.length (recsBytes_take l x h)
  rw [List.length_append] at h1
  have h2 : recsBytes l = recsBytes (l.take (x + 1)) ++ recsBytes (l.drop (x + 1)) := by
    unfold recsBytes
    rw [← List.flatMap_append, List.take_append_drop]
  have h3 := congrArg List.length h2
  rw [List.length_append] at h3
  omega
def bodyA (k c : Int) : List Int := [k, c, 0, 0]
def bodyB (k g : Int) (recs : List S44) : List Int := if k = 34 then [0, 0, 0, (recs.length : Int) % 256] ++ recsBytes recs else addrBytes g
def flagsOf (q : Bool) (rb : Int) : Int := if q = true then bits .or .u8 rb 8 else rb
def bodyC (v : Int) (q : Bool) (rb e : Int) (srcs : List Int) : List Int := if v = 3 then [flagsOf q rb, e] ++ (lenBytes srcs ++ [] ++ layAddrs srcs) else []
def encBody (a0_0 a0_1 a0_2 a0_3 : Int) (a0_4 : Bool) (a0_5 a0_6 : Int) (l0_7 : List Int) (l0_8 : List S44) : List Int :=
  bodyA a0_0 a0_2 ++ bodyB a0_0 a0_3 l0_8 ++ bodyC a0_1 a0_4 a0_5 a0_6 l0_7
/-- The message's box, whole. -/
def MBox (w : World) (M : Nat) (a0_0 a0_1 a0_2 a0_3 : Int) (a0_4 : Bool) (a0_5 a0_6 : Int) (v7 v8 : Value) : Prop :=
  w.heap[M]? = some (.cells #[.int .u8 a0_0, .int .i64 a0_1, .int .u8 a0_2, .int .u32 a0_3, .bool a0_4, .int .u8 a0_5, .int .u8 a0_6, v7, v8] 27 (0, 0))
theorem MBox.cells {w1 w : World} {M : Nat} {a0_0 a0_1 a0_2 a0_3 : Int} {a0_4 : Bool} {a0_5 a0_6 : Int} {v7 v8 : Value} (h : MBox w1 M a0_0 a0_1 a0_2 a0_3 a0_4 a0_5 a0_6 v7 v8) (hb : Below w1.heap.size w1 w) :
    w.cell? ⟨M, 0, none⟩ = some (.int .u8 a0_0) ∧ w.cell? ⟨M, 1, none⟩ = some (.int .i64 a0_1) ∧ w.cell? ⟨M, 2, none⟩ = some (.int .u8 a0_2) ∧ w.cell? ⟨M, 3, none⟩ = some (.int .u32 a0_3) ∧ w.cell? ⟨M, 4, none⟩ = some (.bool a0_4) ∧
    w.cell? ⟨M, 5, none⟩ = some (.int .u8 a0_5) ∧ w.cell? ⟨M, 6, none⟩ = some (.int .u8 a0_6) ∧ w.cell? ⟨M, 7, none⟩ = some v7 ∧ w.cell? ⟨M, 8, none⟩ = some v8 := by
  have h2 := (hb.block _ (Array.getElem?_eq_some_iff.1 h).1).trans h
  refine ⟨?_, ?_, ?_, ?_, ?_, ?_, ?_, ?_, ?_⟩ <;> simp [World.cell?, h2]
theorem Wr.new (w1 : World) (S : Nat → Prop) : Wr w1 (w1.alloc (.cells #[.slice none 0 0] 47)) w1.heap.size S [] :=
  ⟨_, World.alloc_heap_new w1 _, Kd.R_nil _ _ _ _ _, Nat.le_refl _, below_alloc (Below.refl _ _) _⟩
theorem C_new8s (W : World) (l : List Int) (hl : l.length ≤ 140737488355328) (n : Nat) (hn : W.heap.size = n) : Kd.C (Kd.int .u8) (W.alloc (.cells (l.map (Value.int .u8)).toArray 5)) (some ⟨n, 0, none⟩) l.length l := by
  subst hn
  exact C_new8 W l hl
def igmp_Encode.f (k : Nat) (a0_0 : Int) (a0_1 : Int) (a0_2 : Int) (a0_3 : Int) (a0_4 : Bool) (a0_5 : Int) (a0_6 : Int) (l0_7 : List Int) (l0_8 : List (S44)) : Option (List Int × Int) :=
  (igmp_Right.f k a0_0 a0_1 a0_2 a0_3 a0_4 a0_5 a0_6 l0_7 l0_8).bind fun b => if b = true then (if (encBody a0_0 a0_1 a0_2 a0_3 a0_4 a0_5 a0_6 l0_7 l0_8).length + 8 ≤ 140737488355328 then sum_Put.f (encBody a0_0 a0_1 a0_2 a0_3 a0_4 a0_5 a0_6 l0_7 l0_8) 2 else none) else some ([], 1)
theorem igmp_Encode.mono : ∀ a0 a1 a2 a3 a4 a5 a6 a7 a8 k, LeO (igmp_Encode.f k a0 a1 a2 a3 a4 a5 a6 a7 a8) (igmp_Encode.f (k + 1) a0 a1 a2 a3 a4 a5 a6 a7 a8) := by
  intro a0 a1 a2 a3 a4 a5 a6 a7 a8 k
  unfold igmp_Encode.f
  exact LeO.bind (igmp_Right.mono _ _ _ _ _ _ _ _ _ _) (fun _ => LeO.refl _)
set_option maxHeartbeats 4000000 in
set_option maxRecDepth 100000 in
theorem igmp_Encode.calls (k : Nat) (a0_0 : Int) (a0_1 : Int) (a0_2 : Int) (a0_3 : Int) (a0_4 : Bool) (a0_5 : Int) (a0_6 : Int) (A0_7 : Option Addr) (c0_7 : Nat) (l0_7 : List Int) (A0_8 : Option Addr) (c0_8 : Nat) (l0_8 : List (S44)) (r1 : List Int) (r2 : Int) (w : World) (hr0_7 : Kd.C (Kd.int .u32) w A0_7 l0_7.length l0_7) (hc0_7 : l0_7.length ≤ c0_7) (hr0_8 : Kd.C k44 w A0_8 l0_8.length l0_8) (hc0_8 : l0_8.length ≤ c0_8) (h : igmp_Encode.f k a0_0 a0_1 a0_2 a0_3 a0_4 a0_5 a0_6 l0_7 l0_8 = some (r1, r2)) :
    Calls Try.prog 7 #[.agg #[.int .u8 a0_0, .int .i64 a0_1, .int .u8 a0_2, .int .u32 a0_3, .bool a0_4, .int .u8 a0_5, .int .u8 a0_6, .slice A0_7 l0_7.length c0_7, .slice A0_8 l0_8.length c0_8]] w fun e w' => ∃ v0_ : Value, e = .returned (.tuple #[v0_, .int .i64 r2]) ∧ Kd.R (Kd.int .u8) 5 w' w.heap.size (fun _ => True) v0_ r1 ∧ Below w.heap.size w w' := by
  have hu27 := Try.underlying27
  have hu44 := Try.underlying44
  have hu47 := Try.underlying47
  have HR7 := Aside0.mk hr0_7
  have HR8 := Aside0.mk hr0_8
  clear hr0_7 hr0_8
  have hn8 : l0_8.length ≤ 9223372036854775807 := HR8.out.2.1
  unfold igmp_Encode.f at h
  obtain ⟨b, hb, h⟩ := Option.bind_eq_some_iff.mp h
  have HRT := Aside0.mk hb
  clear hb
  go_enter Try.func7, Try.ntmps7
  go_wp2_with fail
  refine (igmp_Right.calls k a0_0 a0_1 a0_2 a0_3 a0_4 a0_5 a0_6 A0_7 c0_7 l0_7 A0_8 c0_8 l0_8 b _ (Kd.C_below HR7.out (below_alloc (Below.refl _ _) _)) hc0_7 (Kd.C_below HR8.out (below_alloc (Below.refl _ _) _)) hc0_8 HRT.out).mono ?_
  rintro e w1 ⟨rfl, hb1⟩
  have hM : MBox w1 w.heap.size a0_0 a0_1 a0_2 a0_3 a0_4 a0_5 a0_6 (.slice A0_7 l0_7.length c0_7) (.slice A0_8 l0_8.length c0_8) := (hb1.block _ (by simp)).trans (World.alloc_heap_new w _)
  have HM := Aside0.mk hM
  have HB1 := Aside0.mk ((below_alloc (Below.refl w.heap.size w) _).trans (hb1.mono (by simp)))
  have hlt1 : w.heap.size < w1.heap.size := by have := hb1.size; simp at this; omega
  clear hM hb1
  by_cases hbt : b = true
  · subst hbt
    rw [if_pos rfl] at h
    by_cases hlen : (encBody a0_0 a0_1 a0_2 a0_3 a0_4 a0_5 a0_6 l0_7 l0_8).length + 8 ≤ 140737488355328
    · rw [if_pos hlen] at h
      have H := Aside0.mk h
      have HLEN := Aside0.mk hlen
      clear h hlen
      obtain ⟨m0, m1, m2, m3, m4, m5, m6, m7, m8⟩ := HM.out.cells (Below.refl _ w1)
      go_wp2_with fail
      refine (lay16 w1 _ w1.heap.size (fun _ => True) [] (some ⟨w1.heap.size + 1, 0, none⟩) 4 (bodyA a0_0 a0_2) ((Wr.new w1 _).below (below_alloc (Below.refl _ _) _)) (C_new8s _ (bodyA a0_0 a0_2) (by simp [bodyA]) _ (by simp)) (by simp [bodyA])).mono ?_
      rintro e w2 ⟨rfl, hW2, _⟩
      have HW2 := Aside0.mk (hW2.mono (S' := fun _ => True) (fun _ _ => trivial))
      clear hW2
      obtain ⟨m0, m1, m2, m3, m4, m5, m6, m7, m8⟩ := HM.out.cells HW2.out.w0
      by_cases h34 : a0_0 = 34
      · subst h34
        go_wp2_with fail
        refine (lay16 w1 _ w1.heap.size (fun _ => True) ([] ++ bodyA 34 a0_2) (some ⟨w2.heap.size, 0, none⟩) 4 [0, 0, 0, (l0_8.length : Int) % 256] (HW2.out.below (below_alloc (Below.refl _ _) _)) (C_new8 w2 [0, 0, 0, (l0_8.length : Int) % 256] (by simp)) (by simp [bodyA])).mono ?_
        rintro e w3 ⟨rfl, hW3, _⟩
        have HW3 := Aside0.mk (hW3.mono (S' := fun _ => True) (fun _ _ => trivial))
        clear hW3 m0 m1 m2 m3 m4 m5 m6 m7 m8
        obtain ⟨m0, m1, m2, m3, m4, m5, m6, m7, m8⟩ := HM.out.cells HW3.out.w0
        obtain ⟨x3, hx3⟩ : ∃ x, [] ++ bodyA 34 a0_2 ++ [0, 0, 0, (l0_8.length : Int) % 256] = x := ⟨_, rfl⟩
        rw [hx3] at HW3
        have HX3 := Aside0.mk hx3
        clear hx3 HW2
        have hlim3 : Aside0 (x3.length + (recsBytes l0_8).length + 8 ≤ 140737488355328) := ⟨by have := HLEN.out; unfold encBody bodyB at this; rw [if_pos rfl] at this; have h2 := congrArg List.length HX3.out; simp at this h2; omega⟩
        go_wp2
        go_loopw [39] (fun v wr => ∃ x : Nat, v = .int .i64 x ∧ x ≤ l0_8.length ∧ Aside0 (Wr w1 wr w1.heap.size (fun _ => True) (x3 ++ recsBytes (l0_8.take x)))) (fun v _ => l0_8.length - (intOf v).toNat)
        case atStart => exact ⟨0, rfl, by omega, ⟨by simpa [recsBytes] using HW3.out⟩⟩
        case round =>
          clear HW3 m0 m1 m2 m3 m4 m5 m6 m7 m8
          obtain ⟨x, rfl, hx, HX⟩ := hrel
          by_cases hlt : x < l0_8.length
          · obtain ⟨ad0, B0, e0, rfl, q0, q1, q2, q3, q4⟩ := at_T44 (Kd.C_below HR8.out HB1.out) (x : Int) (by omega) (by omega)
            simp only [Int.toNat_natCast] at q0 q1 q2
            have ea := Aside0.mk (rdT44_eq l0_8 x hlt)
            generalize rd_T44 l0_8 (x : Int) = a at q0 q1 q2 q3 q4 ea
            have p0 := pw_cell_below HX.out.w0 q0
            have p1 := pw_cell_below HX.out.w0 q1
            have p2 := pw_cell_below HX.out.w0 q2
            have Q4 := Aside0.mk q4
            have hlim : Aside0 (x3.length + (recsBytes (l0_8.take x)).length + (recBytes a).length + 8 ≤ 140737488355328) := ⟨by have h1 := hlim3.out; have h2 := recs_len l0_8 x hlt; rw [← ea.out] at h2; omega⟩
            have hgl := HX.out.lt
            clear q0 q1 q2 q4
            go_wp2_with fail
            refine (lay16 w1 _ w1.heap.size (fun k => k < wr.heap.size ∧ k ≠ w1.heap.size) (x3 ++ recsBytes (l0_8.take x)) (some ⟨wr.heap.size + 1, 0, none⟩) 2 [a.f0, 0] ((HX.out.bound.below (below_alloc (Below.refl _ _) _)).below (below_alloc (Below.refl _ _) _)) (C_new8s _ [a.f0, 0] (by simp) _ (by simp)) (by have := hlim.out; have h2 := recBytes_length a; simp; omega)).mono ?_
            rintro e w5 ⟨rfl, hW5, hk5⟩
            have hr5 : w5.heap[wr.heap.size]? = some (.cells #[.int .u8 a.f0, .int .u32 a.f1, .slice B0 a.f2.length e0] 44 (0, 0)) := (hk5.2 _ (by simp; omega) (by simp; omega)).trans ((Below.heap_alloc _ _ _ (by simp)).trans (World.alloc_heap_new wr _))
            have r1 : w5.cell? ⟨wr.heap.size, 1, none⟩ = some (.int .u32 a.f1) := by simp [World.cell?, hr5]
            have r2 : w5.cell? ⟨wr.heap.size, 2, none⟩ = some (.slice B0 a.f2.length e0) := by simp [World.cell?, hr5]
            have HW5 := Aside0.mk hW5.bound
            have hg5 := hW5.lt
            clear hW5 hk5 hr5 p0 p1 p2 HX
            go_wp2
            go_region_with (first | (go_at_call 18; refine (addr_Bytes.calls 5 a.f1 (addrBytes a.f1) _ (addrBytes_f a.f1)).mono ?_; rintro e w6 ⟨v6, rfl, hR6, hb6⟩; obtain ⟨A6, c6, rfl⟩ := Kd.R_slice hR6; have s1 := pw_cell_below hb6 r1; have s2 := pw_cell_below hb6 r2; have HR6 := Aside0.mk hR6; have HB6 := Aside0.mk ((below_drew (Below.refl w5.heap.size w5)).trans hb6); clear hR6 hb6) | (go_at_call 17; refine (addrs17 w1 _ w1.heap.size _ (x3 ++ recsBytes (l0_8.take x) ++ [a.f0, 0]) _ _ (addrBytes a.f1) B0 e0 a.f2 (HW5.out.below HB6.out) (fun _ h => Nat.lt_of_lt_of_le h.1 HB6.out.size) (Kd.C_kept_own (Kd.R_bound HR6.out) (fun k hk hs => by have h1 : w5.heap.size ≤ k := hk.2.1; rcases hs with h2 | h2 <;> omega)) (by rw [addrBytes_length]; omega) Q4.out (by have := hlim.out; have h2 := recBytes_length a; simp; omega)).mono ?_; rintro e w7 ⟨rfl, hW7⟩; have HW7 := Aside0.mk hW7; clear hW7))
            all_goals
              go_wp2
              go_roundw
              case measure => simp [intOf]; omega
              case rel => exact ⟨x + 1, by go_num, by omega, ⟨by rw [recsBytes_take l0_8 x hlt, ← ea.out]; have h7 := HW7.out; simpa [recBytes, List.append_assoc] using h7⟩⟩
          · have hfin : recsBytes (l0_8.take x) = recsBytes l0_8 := by rw [List.take_of_length_le (by omega)]
            have HW4 : Aside0 (Wr w1 wr w1.heap.size (fun _ => True) (x3 ++ recsBytes l0_8)) := ⟨by rw [← hfin]; exact HX.out⟩
            clear hfin HX
            obtain ⟨w4, rfl⟩ : ∃ w4, w4 = wr := ⟨_, rfl⟩
            obtain ⟨m0, m1, m2, m3, m4, m5, m6, m7, m8⟩ := HM.out.cells HW4.out.w0
            have HB34 : Aside0 (bodyB 34 a0_3 l0_8 = ([0, 0, 0, (l0_8.length : Int) % 256] ++ recsBytes l0_8)) := ⟨by unfold bodyB; rw [if_pos rfl]⟩
            obtain ⟨x4, hx4⟩ : ∃ x, (x3 ++ recsBytes l0_8) = x := ⟨_, rfl⟩
            rw [hx4] at HW4
            have HX4 : Aside0 (bodyA 34 a0_2 ++ bodyB 34 a0_3 l0_8 = x4) := ⟨by rw [← hx4, HB34.out, ← HX3.out]; simp⟩
            clear hx4
            by_cases h3 : a0_1 = 3
            · subst h3
              cases a0_4 with
              | false =>
                go_wp2_with fail
                refine (lay16 w1 _ w1.heap.size (fun _ => True) x4 (some ⟨w4.heap.size, 0, none⟩) 2 [flagsOf false a0_5, a0_6] (HW4.out.below (below_alloc (Below.refl _ _) _)) (C_new8 w4 [flagsOf false a0_5, a0_6] (by simp)) (by have := HLEN.out; unfold encBody at this; rw [HX4.out] at this; simp [bodyC] at this ⊢; omega)).mono ?_
                rintro e w5 ⟨rfl, hW5, _⟩
                have HW5a := Aside0.mk (hW5.bound)
                clear hW5 m0 m1 m2 m3 m4 m5 m6 m7 m8
                obtain ⟨m0, m1, m2, m3, m4, m5, m6, m7, m8⟩ := HM.out.cells HW5a.out.w0
                go_wp2_with fail
                refine (addrs17 w1 _ w1.heap.size _ (x4 ++ [flagsOf false a0_5, a0_6]) none 0 [] A0_7 c0_7 l0_7 HW5a.out (fun _ h => h.1) Kd.C_kept_nil (by simp) (Kd.C_below HR7.out HB1.out) (by have := HLEN.out; have h4 := layAddrs_length l0_7; unfold encBody at this; rw [HX4.out] at this; simp [bodyC, lenBytes, h4] at this ⊢; omega)).mono ?_
                rintro e w6 ⟨rfl, hW6⟩
                have HW5 := Aside0.mk hW6
                have HE : Aside0 (encBody 34 3 a0_2 a0_3 false a0_5 a0_6 l0_7 l0_8 = x4 ++ [flagsOf false a0_5, a0_6] ++ (lenBytes l0_7 ++ []) ++ layAddrs l0_7) := ⟨by unfold encBody; rw [HX4.out]; simp [bodyC]⟩
                clear hW6 HW5a m0 m1 m2 m3 m4 m5 m6 m7 m8
                obtain ⟨ys, hys⟩ : ∃ ys, encBody 34 3 a0_2 a0_3 false a0_5 a0_6 l0_7 l0_8 = ys := ⟨_, rfl⟩
                rw [← HE.out, hys] at HW5
                have HY := Aside0.mk hys
                clear hys
                obtain ⟨v, hv, hR, _, hb5⟩ := HW5.out
                obtain ⟨A9, c9, rfl, hle9, hC9⟩ := Kd.R_reads hR
                obtain ⟨k1, k2⟩ := one_cell hv
                have HB5 := Aside0.mk (HB1.out.trans (hb5.mono HB1.out.size))
                have HC9 := Aside0.mk hC9
                clear hv hR hb5 hC9 HW5
                go_wp2_with fail
                refine (sum_Put.calls A9 c9 ys 2 r1 r2 _ HC9.out hle9 (by rw [← HY.out]; exact H.out)).mono ?_
                rintro e w9 ⟨v9, rfl, hR9, hb9⟩
                obtain ⟨A10, c10, rfl⟩ := Kd.R_slice hR9
                have HR9 := Aside0.mk hR9
                have HB9 := Aside0.mk hb9
                clear hR9 hb9
                go_wp2
                go_ret2
                exact ⟨_, rfl, Kd.R_lower HR9.out HB5.out.size, HB5.out.trans (HB9.out.mono HB5.out.size)⟩
              | true =>
                go_wp2_with fail
                refine (lay16 w1 _ w1.heap.size (fun _ => True) x4 (some ⟨w4.heap.size, 0, none⟩) 2 [flagsOf true a0_5, a0_6] (HW4.out.below (below_alloc (Below.refl _ _) _)) (C_new8 w4 [flagsOf true a0_5, a0_6] (by simp)) (by have := HLEN.out; unfold encBody at this; rw [HX4.out] at this; simp [bodyC] at this ⊢; omega)).mono ?_
                rintro e w5 ⟨rfl, hW5, _⟩
                have HW5a := Aside0.mk (hW5.bound)
                clear hW5 m0 m1 m2 m3 m4 m5 m6 m7 m8
                obtain ⟨m0, m1, m2, m3, m4, m5, m6, m7, m8⟩ := HM.out.cells HW5a.out.w0
                go_wp2_with fail
                refine (addrs17 w1 _ w1.heap.size _ (x4 ++ [flagsOf true a0_5, a0_6]) none 0 [] A0_7 c0_7 l0_7 HW5a.out (fun _ h => h.1) Kd.C_kept_nil (by simp) (Kd.C_below HR7.out HB1.out) (by have := HLEN.out; have h4 := layAddrs_length l0_7; unfold encBody at this; rw [HX4.out] at this; simp [bodyC, lenBytes, h4] at this ⊢; omega)).mono ?_
                rintro e w6 ⟨rfl, hW6⟩
                have HW5 := Aside0.mk hW6
                have HE : Aside0 (encBody 34 3 a0_2 a0_3 true a0_5 a0_6 l0_7 l0_8 = x4 ++ [flagsOf true a0_5, a0_6] ++ (lenBytes l0_7 ++ []) ++ layAddrs l0_7) := ⟨by unfold encBody; rw [HX4.out]; simp [bodyC]⟩
                clear hW6 HW5a m0 m1 m2 m3 m4 m5 m6 m7 m8
                obtain ⟨ys, hys⟩ : ∃ ys, encBody 34 3 a0_2 a0_3 true a0_5 a0_6 l0_7 l0_8 = ys := ⟨_, rfl⟩
                rw [← HE.out, hys] at HW5
                have HY := Aside0.mk hys
                clear hys
                obtain ⟨v, hv, hR, _, hb5⟩ := HW5.out
                obtain ⟨A9, c9, rfl, hle9, hC9⟩ := Kd.R_reads hR
                obtain ⟨k1, k2⟩ := one_cell hv
                have HB5 := Aside0.mk (HB1.out.trans (hb5.mono HB1.out.size))
                have HC9 := Aside0.mk hC9
                clear hv hR hb5 hC9 HW5
                go_wp2_with fail
                refine (sum_Put.calls A9 c9 ys 2 r1 r2 _ HC9.out hle9 (by rw [← HY.out]; exact H.out)).mono ?_
                rintro e w9 ⟨v9, rfl, hR9, hb9⟩
                obtain ⟨A10, c10, rfl⟩ := Kd.R_slice hR9
                have HR9 := Aside0.mk hR9
                have HB9 := Aside0.mk hb9
                clear hR9 hb9
                go_wp2
                go_ret2
                exact ⟨_, rfl, Kd.R_lower HR9.out HB5.out.size, HB5.out.trans (HB9.out.mono HB5.out.size)⟩
            · have h3b : (a0_1 == 3) = false := beq_eq_false_iff_ne.mpr h3
              have HE : Aside0 (encBody 34 a0_1 a0_2 a0_3 a0_4 a0_5 a0_6 l0_7 l0_8 = x4) := ⟨by unfold encBody; rw [HX4.out]; simp [bodyC, h3]⟩
              have HW5 := HW4
              clear HW4 h3
              obtain ⟨ys, hys⟩ : ∃ ys, encBody 34 a0_1 a0_2 a0_3 a0_4 a0_5 a0_6 l0_7 l0_8 = ys := ⟨_, rfl⟩
              rw [← HE.out, hys] at HW5
              have HY := Aside0.mk hys
              clear hys
              obtain ⟨v, hv, hR, _, hb5⟩ := HW5.out
              obtain ⟨A9, c9, rfl, hle9, hC9⟩ := Kd.R_reads hR
              obtain ⟨k1, k2⟩ := one_cell hv
              have HB5 := Aside0.mk (HB1.out.trans (hb5.mono HB1.out.size))
              have HC9 := Aside0.mk hC9
              clear hv hR hb5 hC9 HW5
              go_wp2_with fail
              refine (sum_Put.calls A9 c9 ys 2 r1 r2 _ HC9.out hle9 (by rw [← HY.out]; exact H.out)).mono ?_
              rintro e w9 ⟨v9, rfl, hR9, hb9⟩
              obtain ⟨A10, c10, rfl⟩ := Kd.R_slice hR9
              have HR9 := Aside0.mk hR9
              have HB9 := Aside0.mk hb9
              clear hR9 hb9
              go_wp2
              go_ret2
              exact ⟨_, rfl, Kd.R_lower HR9.out HB5.out.size, HB5.out.trans (HB9.out.mono HB5.out.size)⟩
      · have h34b : (a0_0 == 34) = false := beq_eq_false_iff_ne.mpr h34
        have H34 := Aside0.mk h34
        clear h34
        go_wp2_with fail
        refine (addr_Bytes.calls 5 a0_3 (addrBytes a0_3) _ (addrBytes_f a0_3)).mono ?_
        rintro e w3 ⟨v3, rfl, hR3, hb3⟩
        obtain ⟨A3, c3, rfl, _, hC3⟩ := Kd.R_reads hR3
        have HW3 := Aside0.mk (HW2.out.below hb3)
        have HC3 := Aside0.mk hC3
        clear hR3 hb3 hC3 m0 m1 m2 m3 m4 m5 m6 m7 m8
        go_wp2_with fail
        refine (lay16 w1 _ w1.heap.size _ ([] ++ bodyA a0_0 a0_2) A3 c3 (addrBytes a0_3) HW3.out HC3.out (by have := addrBytes_length a0_3; simp [bodyA]; omega)).mono ?_
        rintro e w4 ⟨rfl, hW4, _⟩
        have HW4 := Aside0.mk (hW4.mono (S' := fun _ => True) (fun _ _ => trivial))
        clear hW4 HW3 HC3
        obtain ⟨m0, m1, m2, m3, m4, m5, m6, m7, m8⟩ := HM.out.cells HW4.out.w0
        have HB34 : Aside0 (bodyB a0_0 a0_3 l0_8 = addrBytes a0_3) := ⟨by unfold bodyB; rw [if_neg H34.out]⟩
        obtain ⟨x4, hx4⟩ : ∃ x, ([] ++ bodyA a0_0 a0_2 ++ addrBytes a0_3) = x := ⟨_, rfl⟩
        rw [hx4] at HW4
        have HX4 : Aside0 (bodyA a0_0 a0_2 ++ bodyB a0_0 a0_3 l0_8 = x4) := ⟨by rw [← hx4, HB34.out]; simp⟩
        clear hx4
        by_cases h3 : a0_1 = 3
        · subst h3
          cases a0_4 with
          | false =>
            go_wp2_with fail
            refine (lay16 w1 _ w1.heap.size (fun _ => True) x4 (some ⟨w4.heap.size, 0, none⟩) 2 [flagsOf false a0_5, a0_6] (HW4.out.below (below_alloc (Below.refl _ _) _)) (C_new8 w4 [flagsOf false a0_5, a0_6] (by simp)) (by have := HLEN.out; unfold encBody at this; rw [HX4.out] at this; simp [bodyC] at this ⊢; omega)).mono ?_
            rintro e w5 ⟨rfl, hW5, _⟩
            have HW5a := Aside0.mk (hW5.bound)
            clear hW5 m0 m1 m2 m3 m4 m5 m6 m7 m8
            obtain ⟨m0, m1, m2, m3, m4, m5, m6, m7, m8⟩ := HM.out.cells HW5a.out.w0
            go_wp2_with fail
            refine (addrs17 w1 _ w1.heap.size _ (x4 ++ [flagsOf false a0_5, a0_6]) none 0 [] A0_7 c0_7 l0_7 HW5a.out (fun _ h => h.1) Kd.C_kept_nil (by simp) (Kd.C_below HR7.out HB1.out) (by have := HLEN.out; have h4 := layAddrs_length l0_7; unfold encBody at this; rw [HX4.out] at this; simp [bodyC, lenBytes, h4] at this ⊢; omega)).mono ?_
            rintro e w6 ⟨rfl, hW6⟩
            have HW5 := Aside0.mk hW6
            have HE : Aside0 (encBody a0_0 3 a0_2 a0_3 false a0_5 a0_6 l0_7 l0_8 = x4 ++ [flagsOf false a0_5, a0_6] ++ (lenBytes l0_7 ++ []) ++ layAddrs l0_7) := ⟨by unfold encBody; rw [HX4.out]; simp [bodyC]⟩
            clear hW6 HW5a m0 m1 m2 m3 m4 m5 m6 m7 m8
            obtain ⟨ys, hys⟩ : ∃ ys, encBody a0_0 3 a0_2 a0_3 false a0_5 a0_6 l0_7 l0_8 = ys := ⟨_, rfl⟩
            rw [← HE.out, hys] at HW5
            have HY := Aside0.mk hys
            clear hys
            obtain ⟨v, hv, hR, _, hb5⟩ := HW5.out
            obtain ⟨A9, c9, rfl, hle9, hC9⟩ := Kd.R_reads hR
            obtain ⟨k1, k2⟩ := one_cell hv
            have HB5 := Aside0.mk (HB1.out.trans (hb5.mono HB1.out.size))
            have HC9 := Aside0.mk hC9
            clear hv hR hb5 hC9 HW5
            go_wp2_with fail
            refine (sum_Put.calls A9 c9 ys 2 r1 r2 _ HC9.out hle9 (by rw [← HY.out]; exact H.out)).mono ?_
            rintro e w9 ⟨v9, rfl, hR9, hb9⟩
            obtain ⟨A10, c10, rfl⟩ := Kd.R_slice hR9
            have HR9 := Aside0.mk hR9
            have HB9 := Aside0.mk hb9
            clear hR9 hb9
            go_wp2
            go_ret2
            exact ⟨_, rfl, Kd.R_lower HR9.out HB5.out.size, HB5.out.trans (HB9.out.mono HB5.out.size)⟩
          | true =>
            go_wp2_with fail
            refine (lay16 w1 _ w1.heap.size (fun _ => True) x4 (some ⟨w4.heap.size, 0, none⟩) 2 [flagsOf true a0_5, a0_6] (HW4.out.below (below_alloc (Below.refl _ _) _)) (C_new8 w4 [flagsOf true a0_5, a0_6] (by simp)) (by have := HLEN.out; unfold encBody at this; rw [HX4.out] at this; simp [bodyC] at this ⊢; omega)).mono ?_
            rintro e w5 ⟨rfl, hW5, _⟩
            have HW5a := Aside0.mk (hW5.bound)
            clear hW5 m0 m1 m2 m3 m4 m5 m6 m7 m8
            obtain ⟨m0, m1, m2, m3, m4, m5, m6, m7, m8⟩ := HM.out.cells HW5a.out.w0
            go_wp2_with fail
            refine (addrs17 w1 _ w1.heap.size _ (x4 ++ [flagsOf true a0_5, a0_6]) none 0 [] A0_7 c0_7 l0_7 HW5a.out (fun _ h => h.1) Kd.C_kept_nil (by simp) (Kd.C_below HR7.out HB1.out) (by have := HLEN.out; have h4 := layAddrs_length l0_7; unfold encBody at this; rw [HX4.out] at this; simp [bodyC, lenBytes, h4] at this ⊢; omega)).mono ?_
            rintro e w6 ⟨rfl, hW6⟩
            have HW5 := Aside0.mk hW6
            have HE : Aside0 (encBody a0_0 3 a0_2 a0_3 true a0_5 a0_6 l0_7 l0_8 = x4 ++ [flagsOf true a0_5, a0_6] ++ (lenBytes l0_7 ++ []) ++ layAddrs l0_7) := ⟨by unfold encBody; rw [HX4.out]; simp [bodyC]⟩
            clear hW6 HW5a m0 m1 m2 m3 m4 m5 m6 m7 m8
            obtain ⟨ys, hys⟩ : ∃ ys, encBody a0_0 3 a0_2 a0_3 true a0_5 a0_6 l0_7 l0_8 = ys := ⟨_, rfl⟩
            rw [← HE.out, hys] at HW5
            have HY := Aside0.mk hys
            clear hys
            obtain ⟨v, hv, hR, _, hb5⟩ := HW5.out
            obtain ⟨A9, c9, rfl, hle9, hC9⟩ := Kd.R_reads hR
            obtain ⟨k1, k2⟩ := one_cell hv
            have HB5 := Aside0.mk (HB1.out.trans (hb5.mono HB1.out.size))
            have HC9 := Aside0.mk hC9
            clear hv hR hb5 hC9 HW5
            go_wp2_with fail
            refine (sum_Put.calls A9 c9 ys 2 r1 r2 _ HC9.out hle9 (by rw [← HY.out]; exact H.out)).mono ?_
            rintro e w9 ⟨v9, rfl, hR9, hb9⟩
            obtain ⟨A10, c10, rfl⟩ := Kd.R_slice hR9
            have HR9 := Aside0.mk hR9
            have HB9 := Aside0.mk hb9
            clear hR9 hb9
            go_wp2
            go_ret2
            exact ⟨_, rfl, Kd.R_lower HR9.out HB5.out.size, HB5.out.trans (HB9.out.mono HB5.out.size)⟩
        · have h3b : (a0_1 == 3) = false := beq_eq_false_iff_ne.mpr h3
          have HE : Aside0 (encBody a0_0 a0_1 a0_2 a0_3 a0_4 a0_5 a0_6 l0_7 l0_8 = x4) := ⟨by unfold encBody; rw [HX4.out]; simp [bodyC, h3]⟩
          have HW5 := HW4
          clear HW4 h3
          obtain ⟨ys, hys⟩ : ∃ ys, encBody a0_0 a0_1 a0_2 a0_3 a0_4 a0_5 a0_6 l0_7 l0_8 = ys := ⟨_, rfl⟩
          rw [← HE.out, hys] at HW5
          have HY := Aside0.mk hys
          clear hys
          obtain ⟨v, hv, hR, _, hb5⟩ := HW5.out
          obtain ⟨A9, c9, rfl, hle9, hC9⟩ := Kd.R_reads hR
          obtain ⟨k1, k2⟩ := one_cell hv
          have HB5 := Aside0.mk (HB1.out.trans (hb5.mono HB1.out.size))
          have HC9 := Aside0.mk hC9
          clear hv hR hb5 hC9 HW5
          go_wp2_with fail
          refine (sum_Put.calls A9 c9 ys 2 r1 r2 _ HC9.out hle9 (by rw [← HY.out]; exact H.out)).mono ?_
          rintro e w9 ⟨v9, rfl, hR9, hb9⟩
          obtain ⟨A10, c10, rfl⟩ := Kd.R_slice hR9
          have HR9 := Aside0.mk hR9
          have HB9 := Aside0.mk hb9
          clear hR9 hb9
          go_wp2
          go_ret2
          exact ⟨_, rfl, Kd.R_lower HR9.out HB5.out.size, HB5.out.trans (HB9.out.mono HB5.out.size)⟩
    · rw [if_neg hlen] at h
      cases h
  · rw [Bool.not_eq_true] at hbt
    subst hbt
    rw [if_neg (by simp)] at h
    simp only [Option.some.injEq, Prod.mk.injEq] at h
    obtain ⟨rfl, rfl⟩ := h
    go_wp2
    go_ret2
    exact ⟨_, rfl, Kd.R_nil _ _ _ _ _, HB1.out⟩
end Go.Proofs.Ytafmjhmpnlkeiaa.P

namespace Go.Proofs.Ytafmjhmpnlkeiaa.P
open Go.RowKit Go.Proofs.YtafmjhmpnlkeiaaW.PrintWords Go.Proofs.YtafmjhmpnlkeiaaW.PrintLast Go.Proofs.YtafmjhmpnlkeiaaW.PrintMore
attribute [local go_sem] max2_int min2_int max_two min_two max_three min_three max_four min_four   -- for this text's walks alone
set_option linter.unusedVariables false
set_option linter.unusedSimpArgs false
/-! ### stolonref02_Join: function 53 -/
def stolonref02_Join.f (a0 : Int) (a1 : Int) : Option (Int) := if (wrap64 ((wrap64 (a0)) + (wrap64 (a1)))) ≥ 65536 then (some (IntKind.u16.wrap (wrap64 ((wrap64 ((wrap64 ((wrap64 (a0)) + (wrap64 (a1)))) - 65536)) + 1)))) else (some (IntKind.u16.wrap (wrap64 ((wrap64 (a0)) + (wrap64 (a1))))))
set_option maxHeartbeats 8000000 in
set_option maxRecDepth 100000 in
theorem stolonref02_Join.calls (a0 : Int) (a1 : Int) (r : Int) (w : World) (h : stolonref02_Join.f a0 a1 = some r) :
    Calls Try.prog 53 #[.int .u16 a0, .int .u16 a1] w fun e w' => e = .returned (.int .u16 r) ∧ Drawn0 w w' := by
  have H : (if (wrap64 ((wrap64 (a0)) + (wrap64 (a1)))) ≥ 65536 then (some (IntKind.u16.wrap (wrap64 ((wrap64 ((wrap64 ((wrap64 (a0)) + (wrap64 (a1)))) - 65536)) + 1)))) else (some (IntKind.u16.wrap (wrap64 ((wrap64 (a0)) + (wrap64 (a1))))))) = some r := h
  clear h
  by_cases c3 : (wrap64 ((wrap64 (a0)) + (wrap64 (a1)))) ≥ 65536
  · rw [if_pos c3] at H
    have c3b0 : decide (65536 ≤ (wrap64 ((wrap64 (a0)) + (wrap64 (a1))))) = true := decide_eq_true c3
    clear c3
    obtain rfl := Option.some.inj H
    go_enter Try.func53, Try.ntmps53
    go_wp2
    go_ret
    exact ⟨by first | rfl | (simp; done) | (simp [*]; done), by repeat (first | exact Drawn0.refl _ | apply Drawn0.step)⟩
  · rw [if_neg c3] at H
    have c3b0 : decide (65536 ≤ (wrap64 ((wrap64 (a0)) + (wrap64 (a1))))) = false := decide_eq_false c3
    clear c3
    obtain rfl := Option.some.inj H
    go_enter Try.func53, Try.ntmps53
    go_wp2
    go_ret
    exact ⟨by first | rfl | (simp; done) | (simp [*]; done), by repeat (first | exact Drawn0.refl _ | apply Drawn0.step)⟩
end Go.Proofs.Ytafmjhmpnlkeiaa.P

namespace Go.Proofs.Ytafmjhmpnlkeiaa.P
open Go.RowKit Go.Proofs.YtafmjhmpnlkeiaaW.PrintWords Go.Proofs.YtafmjhmpnlkeiaaW.PrintLast Go.Proofs.YtafmjhmpnlkeiaaW.PrintMore
attribute [local go_sem] max2_int min2_int max_two min_two max_three min_three max_four min_four   -- for this text's walks alone
set_option linter.unusedVariables false
set_option linter.unusedSimpArgs false
/-! ### stolonref02_Of: function 38 -/
def stolonref02_Of.l0 : Nat → List Int → Int → Int → Option (Int)
  | 0, _, _, _ => none
  | k + 1, x0, x3, x4 => if x4 < (x0.length : Int) then (if 0 ≤ x4 then (if (wrap64 (x4 + 1)) < (x0.length : Int) then (if 0 ≤ (wrap64 (x4 + 1)) then ((stolonref02_Join.f x3 (IntKind.u16.wrap (wrap64 ((wrap64 ((wrap64 (rd x0 x4)) * 256)) + (wrap64 (rd x0 (wrap64 (x4 + 1)))))))).bind fun t180 => (stolonref02_Of.l0 k x0 t180 (wrap64 (x4 + 2)))) else (none)) else ((stolonref02_Join.f x3 (IntKind.u16.wrap (wrap64 ((wrap64 (rd x0 x4)) * 256)))).bind fun t181 => (stolonref02_Of.l0 k x0 t181 (wrap64 (x4 + 2))))) else (none)) else (some (IntKind.u16.wrap (65535 - x3)))
def stolonref02_Of.f (k : Nat) (l0 : List Int) : Option (Int) := stolonref02_Of.l0 k l0 0 0
set_option maxHeartbeats 8000000 in
set_option maxRecDepth 100000 in
theorem stolonref02_Of.calls (k : Nat) (A0 : Option Addr) (c0 : Nat) (l0 : List Int) (r : Int) (w : World) (hr0 : Kd.C (Kd.int .u8) w A0 l0.length l0) (hc0 : l0.length ≤ c0) (h : stolonref02_Of.f k l0 = some r) :
    Calls Try.prog 38 #[.slice A0 l0.length c0] w fun e w' => e = .returned (.int .u16 r) ∧ Drawn0 w w' := by
  have HR0 := Aside0.mk hr0
  have HC0 := Aside0.mk hc0
  clear hr0 hc0
  have H : (stolonref02_Of.l0 k l0 0 0) = some r := h
  clear h
  have H' := Aside0.mk H
  clear H
  go_enter Try.func38, Try.ntmps38
  go_wp2
  go_loopg [3, 4] k (fun kq v3 v4 w' => ∃ (x3_1 : Int) (x4_1 : Int), v3 = .int .u16 x3_1 ∧ v4 = .int .i64 x4_1 ∧ Aside0 (stolonref02_Of.l0 kq l0 x3_1 x4_1 = some r) ∧ Aside0 (kq ≤ k) ∧ Drawn0 w w')
  case atStart => exact ⟨(0), (0), (by first | rfl | (simp; done) | (simp [*]; done)), (by first | rfl | (simp; done) | (simp [*]; done)), H', ⟨Nat.le_refl _⟩, by repeat (first | exact Drawn0.refl _ | apply Drawn0.step)⟩
  case round =>
    clear H'
    obtain ⟨x3_1, x4_1, rfl, rfl, HA, HK1, ⟨m1, rfl⟩⟩ := hrel
    cases gk with
    | zero => exact absurd HA.out (by simp [stolonref02_Of.l0])
    | succ k1 =>
      have H := HA.out
      clear HA
      simp only [stolonref02_Of.l0] at H
      by_cases c2 : x4_1 < (l0.length : Int)
      · rw [if_pos c2] at H
        have c2b0 : decide (x4_1 < (l0.length : Int)) = true := decide_eq_true c2
        clear c2
        by_cases c3 : 0 ≤ x4_1
        · rw [if_pos c3] at H
          have c3b0 : decide (0 ≤ x4_1) = true := decide_eq_true c3
          clear c3
          by_cases c4 : (wrap64 (x4_1 + 1)) < (l0.length : Int)
          · rw [if_pos c4] at H
            have c4b0 : decide ((wrap64 (x4_1 + 1)) < (l0.length : Int)) = true := decide_eq_true c4
            clear c4
            obtain ⟨ji5, hji5⟩ : ∃ j_ : Int, (wrap64 (x4_1 + 1)) = j_ := ⟨_, rfl⟩
            replace H : (if 0 ≤ (ji5) then ((stolonref02_Join.f x3_1 (IntKind.u16.wrap (wrap64 ((wrap64 ((wrap64 (rd l0 x4_1)) * 256)) + (wrap64 (rd l0 (ji5))))))).bind fun t180 => (stolonref02_Of.l0 k1 l0 t180 (wrap64 (x4_1 + 2)))) else (none)) = some r := by first | (rw [hji5] at H; exact H) | (simp only [hji5] at H ⊢; exact H)
            (try rw [hji5] at c4b0)
            have hji5w : (IntKind.i64.wrap (x4_1 + 1)) = ji5 := (i64_w _).trans hji5
            by_cases c6 : 0 ≤ (ji5)
            · rw [if_pos c6] at H
              have c6b0 : decide (0 ≤ (ji5)) = true := decide_eq_true c6
              clear c6
              replace H := Option.bind_eq_some_iff.mp H
              obtain ⟨t180, A70, H⟩ := H
              replace H : (stolonref02_Of.l0 k1 l0 t180 (wrap64 (x4_1 + 2))) = some r := H
              have A7 := Aside0.mk A70
              clear A70
              have H' := Aside0.mk H
              clear H
              have p178 : 0 ≤ (x4_1 : Int) := of_decide_eq_true (by first | (with_reducible assumption) | assumption)
              have q178 : x4_1 < (l0.length : Int) := of_decide_eq_true (by first | (with_reducible assumption) | assumption)
              obtain ⟨ad178, e178, hx178_0⟩ := Kd.at_int HR0.out x4_1 p178 q178
              cases e178
              replace p178 := eq_true p178
              replace q178 := eq_true q178
              have p179 : 0 ≤ ((ji5) : Int) := of_decide_eq_true (by first | (with_reducible assumption) | assumption)
              have q179 : (ji5) < (l0.length : Int) := of_decide_eq_true (by first | (with_reducible assumption) | assumption)
              obtain ⟨ad179, e179, hx179_0⟩ := Kd.at_int HR0.out (ji5) p179 q179
              obtain rfl : ad178 = ad179 := (by injection e179)
              replace p179 := eq_true p179
              replace q179 := eq_true q179
              go_wp2_with (first | ((with_reducible refine gate_callee (f := 53) rfl ?_); refine goesL_ (some 34) rfl rfl Try.func53 (by kernel_rfl) rfl #[.int .u16 x3_1, .int .u16 (IntKind.u16.wrap (wrap64 ((wrap64 ((wrap64 (rd l0 x4_1)) * 256)) + (wrap64 (rd l0 (ji5))))))] rfl (by (try simp only [List.map_toArray, List.map_cons, List.map_nil]); first | done | (simp only [hji5]; rfl) | rfl | (simp only [List.length_drop, List.length_take]; rfl)) ?_; (with_reducible refine (stolonref02_Join.calls x3_1 (IntKind.u16.wrap (wrap64 ((wrap64 ((wrap64 (rd l0 x4_1)) * 256)) + (wrap64 (rd l0 (ji5)))))) t180 _ A7.out).mono ?_); rintro e w' ⟨rfl, ⟨nd, rfl⟩⟩; refine ⟨_, rfl, ?_⟩))
              go_roundg k1
              case measure => have := HK1.out; omega
              case rel => exact ⟨(t180), (wrap64 (x4_1 + 2)), (by first | rfl | (simp; done) | (simp [*]; done)), (by first | rfl | (simp; done) | (simp [*]; done)), H', ⟨by have := HK1.out; omega⟩, by repeat (first | exact Drawn0.refl _ | apply Drawn0.step)⟩
            · rw [if_neg c6] at H
              exact absurd H (by simp)
          · rw [if_neg c4] at H
            have c4b0 : decide ((wrap64 (x4_1 + 1)) < (l0.length : Int)) = false := decide_eq_false c4
            clear c4
            replace H := Option.bind_eq_some_iff.mp H
            obtain ⟨t181, A80, H⟩ := H
            replace H : (stolonref02_Of.l0 k1 l0 t181 (wrap64 (x4_1 + 2))) = some r := H
            have A8 := Aside0.mk A80
            clear A80
            have H' := Aside0.mk H
            clear H
            have p178 : 0 ≤ (x4_1 : Int) := of_decide_eq_true (by first | (with_reducible assumption) | assumption)
            have q178 : x4_1 < (l0.length : Int) := of_decide_eq_true (by first | (with_reducible assumption) | assumption)
            obtain ⟨ad178, e178, hx178_0⟩ := Kd.at_int HR0.out x4_1 p178 q178
            cases e178
            replace p178 := eq_true p178
            replace q178 := eq_true q178
            go_wp2_with (first | ((with_reducible refine gate_callee (f := 53) rfl ?_); refine goesL_ (some 34) rfl rfl Try.func53 (by kernel_rfl) rfl #[.int .u16 x3_1, .int .u16 (IntKind.u16.wrap (wrap64 ((wrap64 (rd l0 x4_1)) * 256)))] rfl (by (try simp only [List.map_toArray, List.map_cons, List.map_nil]); first | done | rfl | (simp only [List.length_drop, List.length_take]; rfl)) ?_; (with_reducible refine (stolonref02_Join.calls x3_1 (IntKind.u16.wrap (wrap64 ((wrap64 (rd l0 x4_1)) * 256))) t181 _ A8.out).mono ?_); rintro e w' ⟨rfl, ⟨nd, rfl⟩⟩; refine ⟨_, rfl, ?_⟩))
            go_roundg k1
            case measure => have := HK1.out; omega
            case rel => exact ⟨(t181), (wrap64 (x4_1 + 2)), (by first | rfl | (simp; done) | (simp [*]; done)), (by first | rfl | (simp; done) | (simp [*]; done)), H', ⟨by have := HK1.out; omega⟩, by repeat (first | exact Drawn0.refl _ | apply Drawn0.step)⟩
        · rw [if_neg c3] at H
          exact absurd H (by simp)
      · rw [if_neg c2] at H
        have c2b0 : decide (x4_1 < (l0.length : Int)) = false := decide_eq_false c2
        clear c2
        obtain rfl := Option.some.inj H
        go_wp2
        go_ret
        exact ⟨by first | rfl | (simp; done) | (simp [*]; done), by repeat (first | exact Drawn0.refl _ | apply Drawn0.step)⟩
end Go.Proofs.Ytafmjhmpnlkeiaa.P

namespace Go.Proofs.Ytafmjhmpnlkeiaa.P
open Go.RowKit Go.Proofs.YtafmjhmpnlkeiaaW.PrintWords Go.Proofs.YtafmjhmpnlkeiaaW.PrintLast Go.Proofs.YtafmjhmpnlkeiaaW.PrintMore
set_option linter.unusedVariables false
set_option linter.unusedSimpArgs false
theorem turned16_eq (s : Int) (h0 : 0 ≤ s) (h1 : s ≤ 65535) : turned16 s = 65535 - s := by
  show bits .xor .u16 65535 s = _
  rw [u16_xor _ _ (by omega) (by omega) h0 (by omega)]
  obtain ⟨n, rfl⟩ : ∃ n : Nat, s = n := ⟨s.toNat, by omega⟩
  have h : (BitVec.ofNat 16 n ^^^ BitVec.allOnes 16).toNat = 65535 - n := by
    rw [BitVec.xor_allOnes, BitVec.toNat_not, BitVec.toNat_ofNat, Nat.mod_eq_of_lt (by omega)]
  rw [BitVec.toNat_xor, BitVec.toNat_ofNat, Nat.mod_eq_of_lt (by omega), BitVec.toNat_allOnes, Nat.xor_comm] at h
  have h2 : (65535 : Int).toNat ^^^ ((n : Int)).toNat = 65535 - n := h
  rw [h2]
  omega
theorem join_eq (a b : Int) (ha : 0 ≤ a) (ha1 : a ≤ 65535) (hb : 0 ≤ b) (hb1 : b ≤ 65535) : stolonref02_Join.f a b = some (joinS a b) ∧ 0 ≤ joinS a b ∧ joinS a b ≤ 65535 := by
  have hand : bits .and .u32 (a + b) 65535 = (a + b) % 65536 := by
    rw [u32_and _ _ (by omega) (by omega) (by omega) (by omega)]
    have h := Nat.and_two_pow_sub_one_eq_mod (a + b).toNat 16
    have h2 : (a + b).toNat &&& (65535 : Int).toNat = (a + b).toNat % 65536 := h
    rw [h2]
    omega
  have hj : joinS a b = (a + b) % 65536 + (a + b) / 65536 := by
    unfold joinS sum_Join.f
    rw [Int.emod_eq_of_lt ha (by omega), Int.emod_eq_of_lt hb (by omega), Int.emod_eq_of_lt (show 0 ≤ a + b by omega) (by omega), hand]
    simp [IntKind.wrap, IntKind.bits, IntKind.signed]
    omega
  rw [hj]
  unfold stolonref02_Join.f wrap64
  refine ⟨?_, by omega, by omega⟩
  split
  · simp [IntKind.wrap, IntKind.bits, IntKind.signed]
    omega
  · simp [IntKind.wrap, IntKind.bits, IntKind.signed]
    omega
end Go.Proofs.Ytafmjhmpnlkeiaa.P

namespace Go.Proofs.Ytafmjhmpnlkeiaa.P
open Go.RowKit Go.Proofs.YtafmjhmpnlkeiaaW.PrintWords Go.Proofs.YtafmjhmpnlkeiaaW.PrintLast Go.Proofs.YtafmjhmpnlkeiaaW.PrintMore
set_option linter.unusedVariables false
set_option linter.unusedSimpArgs false
theorem wordAt_range (l : List Int) (h : bytesOk l) (i : Nat) : 0 ≤ wordAt l i ∧ wordAt l i ≤ 65535 := by
  have h1 := h (2 * i)
  have h2 := h (2 * i + 1)
  unfold wordAt
  split <;> omega
theorem u16_same (x : Int) (h0 : 0 ≤ x) (h1 : x ≤ 65535) : IntKind.u16.wrap x = x := wraps_u16 x h0 (by omega)
theorem wordsOf_drop (l : List Int) (i : Nat) (h : i < (l.length + 1) / 2) : (wordsOf l).drop i = wordAt l i :: (wordsOf l).drop (i + 1) := by
  have hl : i < (wordsOf l).length := by simpa [wordsOf] using h
  rw [List.drop_eq_getElem_cons hl]
  simp [wordsOf]
theorem of_l0 (l : List Int) (hok : bytesOk l) (hn : l.length ≤ 140737488355328) (d : Nat) : ∀ (i : Nat) (s : Int), (l.length + 1) / 2 - i = d → i ≤ (l.length + 1) / 2 → 0 ≤ s → s ≤ 65535 → Ev (fun k => stolonref02_Of.l0 k l s ((2 * i : Nat) : Int)) (65535 - ((wordsOf l).drop i).foldl joinS s) := by
  induction d with
  | zero =>
    intro i s hd hi h0 h1
    refine Ev.succ (g := fun _ => some (65535 - s)) (fun k => by simp only [stolonref02_Of.l0]; rw [if_neg (by omega), u16_same _ (by omega) (by omega)]) (Ev.const ?_)
    have hl : (wordsOf l).length ≤ i := by simp [wordsOf]; omega
    rw [List.drop_of_length_le hl]
    rfl
  | succ d ih =>
    intro i s hd hi h0 h1
    have hw := wordAt_range l hok i
    obtain ⟨hj, hj0, hj1⟩ := join_eq s (wordAt l i) h0 h1 hw.1 hw.2
    have hr0 := hok (2 * i)
    have hr1 := hok (2 * i + 1)
    have e0 : rd l ((2 * i : Nat) : Int) = l.getD (2 * i) 0 := rfl
    have w1 : wrap64 (((2 * i : Nat) : Int) + 1) = ((2 * i + 1 : Nat) : Int) := by unfold wrap64; omega
    have w2 : wrap64 (((2 * i : Nat) : Int) + 2) = ((2 * (i + 1) : Nat) : Int) := by unfold wrap64; omega
    have e1 : rd l ((2 * i + 1 : Nat) : Int) = l.getD (2 * i + 1) 0 := rfl
    rw [wordsOf_drop l i (by omega), List.foldl_cons]
    refine Ev.succ (g := fun k => stolonref02_Of.l0 k l (joinS s (wordAt l i)) ((2 * (i + 1) : Nat) : Int)) (fun k => ?_) (ih (i + 1) _ (by omega) (by omega) hj0 hj1)
    simp only [stolonref02_Of.l0]
    rw [if_pos (by omega), if_pos (by omega), w1, w2, e0, e1]
    by_cases h2 : 2 * i + 1 < l.length
    · rw [if_pos (by omega), if_pos (by omega)]
      have e : IntKind.u16.wrap (wrap64 (wrap64 (wrap64 (l.getD (2 * i) 0) * 256) + wrap64 (l.getD (2 * i + 1) 0))) = wordAt l i := by
        have e2 : wrap64 (wrap64 (wrap64 (l.getD (2 * i) 0) * 256) + wrap64 (l.getD (2 * i + 1) 0)) = wordAt l i := by
          unfold wordAt wrap64
          rw [if_pos h2]
          omega
        rw [e2, u16_same _ hw.1 hw.2]
      rw [e, hj]
      rfl
    · rw [if_neg (by omega)]
      have e : IntKind.u16.wrap (wrap64 (wrap64 (l.getD (2 * i) 0) * 256)) = wordAt l i := by
        have e2 : wrap64 (wrap64 (l.getD (2 * i) 0) * 256) = wordAt l i := by
          unfold wordAt wrap64
          rw [if_neg h2]
          omega
        rw [e2, u16_same _ hw.1 hw.2]
      rw [e, hj]
      rfl
theorem foldl_range (ws : List Int) (h : ∀ x ∈ ws, 0 ≤ x ∧ x ≤ 65535) : ∀ s, 0 ≤ s → s ≤ 65535 → 0 ≤ ws.foldl joinS s ∧ ws.foldl joinS s ≤ 65535 := by
  induction ws with
  | nil => exact fun s h0 h1 => ⟨h0, h1⟩
  | cons a ws ih =>
    intro s h0 h1
    have ha := h a (List.mem_cons_self ..)
    obtain ⟨_, h2, h3⟩ := join_eq s a h0 h1 ha.1 ha.2
    exact ih (fun x hx => h x (List.mem_cons_of_mem _ hx)) _ h2 h3
theorem sum_range (l : List Int) (hok : bytesOk l) : 0 ≤ sum16 (wordsOf l) ∧ sum16 (wordsOf l) ≤ 65535 := by
  refine foldl_range _ (fun x hx => ?_) 0 (by omega) (by omega)
  simp only [wordsOf, List.mem_map] at hx
  obtain ⟨i, _, rfl⟩ := hx
  exact wordAt_range l hok i
theorem of_f (l : List Int) (hok : bytesOk l) (hn : l.length ≤ 140737488355328) : Ev (fun k => stolonref02_Of.f k l) (turned16 (sum16 (wordsOf l))) := by
  have hs := sum_range l hok
  rw [turned16_eq _ hs.1 hs.2]
  exact of_l0 l hok hn _ 0 0 rfl (by omega) (by omega) (by omega)
end Go.Proofs.Ytafmjhmpnlkeiaa.P

namespace Go.Proofs.Ytafmjhmpnlkeiaa.P
open Go.RowKit Go.Proofs.YtafmjhmpnlkeiaaW.PrintWords Go.Proofs.YtafmjhmpnlkeiaaW.PrintLast Go.Proofs.YtafmjhmpnlkeiaaW.PrintMore
attribute [local go_sem] max2_int min2_int max_two min_two max_three min_three max_four min_four   -- for this text's walks alone
set_option linter.unusedVariables false
set_option linter.unusedSimpArgs false
/-! ### stolonref01_Of: function 54 -/
def stolonref01_Of.f (l0 : List Int) : Option (Int × Int) := if (l0.length : Int) < 4 then (some (0, 3)) else (if (l0.length : Int) > 4 then (some (0, 2)) else (if 0 < (l0.length : Int) then (if 1 < (l0.length : Int) then (if 2 < (l0.length : Int) then (if 3 < (l0.length : Int) then (some ((((((((((rd l0 0) % 4294967296) * 16777216) % 4294967296) + ((((rd l0 1) % 4294967296) * 65536) % 4294967296)) % 4294967296) + ((((rd l0 2) % 4294967296) * 256) % 4294967296)) % 4294967296) + ((rd l0 3) % 4294967296)) % 4294967296, 0)) else (none)) else (none)) else (none)) else (none)))
set_option maxHeartbeats 8000000 in
set_option maxRecDepth 100000 in
theorem stolonref01_Of.calls (A0 : Option Addr) (c0 : Nat) (l0 : List Int) (r1 : Int) (r2 : Int) (w : World) (hr0 : Kd.C (Kd.int .u8) w A0 l0.length l0) (hc0 : l0.length ≤ c0) (h : stolonref01_Of.f l0 = some (r1, r2)) :
    Calls Try.prog 54 #[.slice A0 l0.length c0] w fun e w' => e = .returned (.tuple #[.int .u32 r1, .int .i64 r2]) ∧ Drawn0 w w' := by
  have HR0 := Aside0.mk hr0
  have HC0 := Aside0.mk hc0
  clear hr0 hc0
  have H : (if (l0.length : Int) < 4 then (some (0, 3)) else (if (l0.length : Int) > 4 then (some (0, 2)) else (if 0 < (l0.length : Int) then (if 1 < (l0.length : Int) then (if 2 < (l0.length : Int) then (if 3 < (l0.length : Int) then (some ((((((((((rd l0 0) % 4294967296) * 16777216) % 4294967296) + ((((rd l0 1) % 4294967296) * 65536) % 4294967296)) % 4294967296) + ((((rd l0 2) % 4294967296) * 256) % 4294967296)) % 4294967296) + ((rd l0 3) % 4294967296)) % 4294967296, 0)) else (none)) else (none)) else (none)) else (none)))) = some (r1, r2) := h
  clear h
  by_cases c2 : (l0.length : Int) < 4
  · rw [if_pos c2] at H
    have c2b0 : decide ((l0.length : Int) < 4) = true := decide_eq_true c2
    have c2b1 : decide (l0.length < 4) = true := decide_eq_true (by omega)
    clear c2
    simp only [Option.some.injEq, Prod.mk.injEq] at H
    obtain ⟨rfl, rfl⟩ := H
    go_enter Try.func54, Try.ntmps54
    go_wp2
    repeat (go_quiet (fail); try go_wp2)
    go_ret2
    exact ⟨by first | rfl | (simp; done) | (simp [*]; done), by repeat (first | exact Drawn0.refl _ | apply Drawn0.step)⟩
  · rw [if_neg c2] at H
    have c2b0 : decide ((l0.length : Int) < 4) = false := decide_eq_false c2
    have c2b1 : decide (l0.length < 4) = false := decide_eq_false (by omega)
    clear c2
    by_cases c3 : (l0.length : Int) > 4
    · rw [if_pos c3] at H
      have c3b0 : decide (4 < (l0.length : Int)) = true := decide_eq_true c3
      have c3b1 : decide (4 < l0.length) = true := decide_eq_true (by omega)
      clear c3
      simp only [Option.some.injEq, Prod.mk.injEq] at H
      obtain ⟨rfl, rfl⟩ := H
      go_enter Try.func54, Try.ntmps54
      go_wp2
      repeat (go_quiet (fail); try go_wp2)
      go_ret2
      exact ⟨by first | rfl | (simp; done) | (simp [*]; done), by repeat (first | exact Drawn0.refl _ | apply Drawn0.step)⟩
    · rw [if_neg c3] at H
      have c3b0 : decide (4 < (l0.length : Int)) = false := decide_eq_false c3
      have c3b1 : decide (4 < l0.length) = false := decide_eq_false (by omega)
      clear c3
      by_cases c4 : 0 < (l0.length : Int)
      · rw [if_pos c4] at H
        have c4b0 : decide (0 < (l0.length : Int)) = true := decide_eq_true c4
        have c4b1 : decide (0 < l0.length) = true := decide_eq_true (by omega)
        clear c4
        by_cases c5 : 1 < (l0.length : Int)
        · rw [if_pos c5] at H
          have c5b0 : decide (1 < (l0.length : Int)) = true := decide_eq_true c5
          have c5b1 : decide (1 < l0.length) = true := decide_eq_true (by omega)
          clear c5
          by_cases c6 : 2 < (l0.length : Int)
          · rw [if_pos c6] at H
            have c6b0 : decide (2 < (l0.length : Int)) = true := decide_eq_true c6
            have c6b1 : decide (2 < l0.length) = true := decide_eq_true (by omega)
            clear c6
            by_cases c7 : 3 < (l0.length : Int)
            · rw [if_pos c7] at H
              have c7b0 : decide (3 < (l0.length : Int)) = true := decide_eq_true c7
              have c7b1 : decide (3 < l0.length) = true := decide_eq_true (by omega)
              clear c7
              simp only [Option.some.injEq, Prod.mk.injEq] at H
              obtain ⟨rfl, rfl⟩ := H
              have p225 : 0 ≤ (0 : Int) := (by omega)
              have q225 : 0 < (l0.length : Int) := of_decide_eq_true (by first | (with_reducible assumption) | assumption)
              obtain ⟨ad225, e225, hx225_0⟩ := Kd.at_int HR0.out 0 p225 q225
              cases e225
              have qi225 : (0 < l0.length) = True := eq_true (by omega)
              (try rw [show ((0 : Int)).toNat = 0 from rfl] at hx225_0)
              (try rw [Addr.add_zero'] at hx225_0)
              replace p225 := eq_true p225
              replace q225 := eq_true q225
              have p226 : 0 ≤ (1 : Int) := (by omega)
              have q226 : 1 < (l0.length : Int) := of_decide_eq_true (by first | (with_reducible assumption) | assumption)
              obtain ⟨ad226, e226, hx226_0⟩ := Kd.at_int HR0.out 1 p226 q226
              obtain rfl : ad225 = ad226 := (by injection e226)
              (try simp only [show (1 : Int).toNat = 1 from rfl, Nat.reduceMul, Nat.reduceEqDiff, Go.Addr.add, ↓reduceIte] at hx226_0)
              have qi226 : (1 < l0.length) = True := eq_true (by omega)
              (try rw [show ((1 : Int)).toNat = 1 from rfl] at hx226_0)
              replace p226 := eq_true p226
              replace q226 := eq_true q226
              have p227 : 0 ≤ (2 : Int) := (by omega)
              have q227 : 2 < (l0.length : Int) := of_decide_eq_true (by first | (with_reducible assumption) | assumption)
              obtain ⟨ad227, e227, hx227_0⟩ := Kd.at_int HR0.out 2 p227 q227
              obtain rfl : ad225 = ad227 := (by injection e227)
              (try simp only [show (2 : Int).toNat = 2 from rfl, Nat.reduceMul, Nat.reduceEqDiff, Go.Addr.add, ↓reduceIte] at hx227_0)
              have qi227 : (2 < l0.length) = True := eq_true (by omega)
              (try rw [show ((2 : Int)).toNat = 2 from rfl] at hx227_0)
              replace p227 := eq_true p227
              replace q227 := eq_true q227
              have p228 : 0 ≤ (3 : Int) := (by omega)
              have q228 : 3 < (l0.length : Int) := of_decide_eq_true (by first | (with_reducible assumption) | assumption)
              obtain ⟨ad228, e228, hx228_0⟩ := Kd.at_int HR0.out 3 p228 q228
              obtain rfl : ad225 = ad228 := (by injection e228)
              (try simp only [show (3 : Int).toNat = 3 from rfl, Nat.reduceMul, Nat.reduceEqDiff, Go.Addr.add, ↓reduceIte] at hx228_0)
              have qi228 : (3 < l0.length) = True := eq_true (by omega)
              (try rw [show ((3 : Int)).toNat = 3 from rfl] at hx228_0)
              replace p228 := eq_true p228
              replace q228 := eq_true q228
              go_enter Try.func54, Try.ntmps54
              go_wp2
              repeat (go_quiet (fail); try go_wp2)
              go_ret2
              exact ⟨by first | rfl | (simp; done) | (simp [*]; done), by repeat (first | exact Drawn0.refl _ | apply Drawn0.step)⟩
            · rw [if_neg c7] at H
              exact absurd H (by simp)
          · rw [if_neg c6] at H
            exact absurd H (by simp)
        · rw [if_neg c5] at H
          exact absurd H (by simp)
      · rw [if_neg c4] at H
        exact absurd H (by simp)
end Go.Proofs.Ytafmjhmpnlkeiaa.P

namespace Go.Proofs.Ytafmjhmpnlkeiaa.P
open Go.RowKit Go.Proofs.YtafmjhmpnlkeiaaW.PrintWords Go.Proofs.YtafmjhmpnlkeiaaW.PrintLast Go.Proofs.YtafmjhmpnlkeiaaW.PrintMore
attribute [local go_sem] max2_int min2_int max_two min_two max_three min_three max_four min_four   -- for this text's walks alone
set_option linter.unusedVariables false
set_option linter.unusedSimpArgs false
/-! ### stolonref05_at: function 39 -/
def stolonref05_at.f (l0 : List Int) (a1 : Int) : Option (Int) := if 0 ≤ a1 then (if a1 ≤ (wrap64 (a1 + 4)) then (if (wrap64 (a1 + 4)) ≤ (l0.length : Int) then ((stolonref01_Of.f ((l0.take ((wrap64 (a1 + 4)) : Int).toNat).drop (a1 : Int).toNat)).bind fun bt230 => (some bt230.1)) else (none)) else (none)) else (none)
set_option maxHeartbeats 8000000 in
set_option maxRecDepth 100000 in
theorem stolonref05_at.calls (A0 : Option Addr) (c0 : Nat) (l0 : List Int) (a1 : Int) (r : Int) (w : World) (hr0 : Kd.C (Kd.int .u8) w A0 l0.length l0) (hc0 : l0.length ≤ c0) (h : stolonref05_at.f l0 a1 = some r) :
    Calls Try.prog 39 #[.slice A0 l0.length c0, .int .i64 a1] w fun e w' => e = .returned (.int .u32 r) ∧ Drawn0 w w' := by
  have HR0 := Aside0.mk hr0
  have HC0 := Aside0.mk hc0
  clear hr0 hc0
  have H : (if 0 ≤ a1 then (if a1 ≤ (wrap64 (a1 + 4)) then (if (wrap64 (a1 + 4)) ≤ (l0.length : Int) then ((stolonref01_Of.f ((l0.take ((wrap64 (a1 + 4)) : Int).toNat).drop (a1 : Int).toNat)).bind fun bt230 => (some bt230.1)) else (none)) else (none)) else (none)) = some r := h
  clear h
  by_cases c3 : 0 ≤ a1
  · rw [if_pos c3] at H
    have c3b0 := eq_true c3
    have c3b1 : decide (0 ≤ a1) = true := decide_eq_true c3
    clear c3
    by_cases c4 : a1 ≤ (wrap64 (a1 + 4))
    · rw [if_pos c4] at H
      have c4b0 := eq_true c4
      have c4b1 : decide (a1 ≤ (wrap64 (a1 + 4))) = true := decide_eq_true c4
      by_cases c5 : (wrap64 (a1 + 4)) ≤ (l0.length : Int)
      · rw [if_pos c5] at H
        have c5b0 := eq_true c5
        have c5b1 : decide ((wrap64 (a1 + 4)) ≤ (l0.length : Int)) = true := decide_eq_true c5
        replace H := Option.bind_eq_some_iff.mp H
        obtain ⟨⟨t230, t231⟩, A60, H⟩ := H
        replace H : (some t230) = some r := H
        have A6 := Aside0.mk A60
        clear A60
        obtain rfl := Option.some.inj H
        obtain ⟨i07, hi07, _, hsz7, _⟩ := info_parts info5
        obtain ⟨A7, hcut7, hA7, hC7⟩ := print_mid_of (P := Try.prog) (Value.int .u8) 0 30 5 .i64 .i64 Try.underlying30 hi07 hsz7 A0 c0 l0 a1 (wrap64 (a1 + 4)) (of_decide_eq_true (by first | (with_reducible assumption) | assumption)) (by first | omega | exact of_decide_eq_true (by first | (with_reducible assumption) | assumption)) (of_decide_eq_true (by first | (with_reducible assumption) | assumption)) HC0.out
        have HR229 := Aside0.mk (Kd.C_of_reads (h1 := fun _ => rfl) (hA7 _ (Kd.reads_of_C HR0.out)))
        have HC229 := Aside0.mk hC7
        clear hA7 hC7 hi07 hsz7
        go_enter Try.func39, Try.ntmps39
        go_wp2_with (first | ((with_reducible refine gate_callee (f := 54) rfl ?_); refine goesL_ (some 13) rfl rfl Try.func54 (by kernel_rfl) rfl #[.slice A7 ((l0.take ((wrap64 (a1 + 4)) : Int).toNat).drop (a1 : Int).toNat).length (c0 - a1.toNat)] rfl (by (try simp only [List.map_toArray, List.map_cons, List.map_nil]); first | done | (rw [show ((l0.take ((wrap64 (a1 + 4)) : Int).toNat).drop (a1 : Int).toNat).length = ((wrap64 (a1 + 4)).toNat - a1.toNat) from (by rw [List.length_drop, List.length_take]; have h_ : ((wrap64 (a1 + 4)) : Int) ≤ (l0.length : Int) := of_decide_eq_true (by first | (with_reducible assumption) | assumption); omega)] <;> rfl) | rfl | (simp only [List.length_drop, List.length_take]; rfl)) ?_; (with_reducible refine (stolonref01_Of.calls _ _ ((l0.take ((wrap64 (a1 + 4)) : Int).toNat).drop (a1 : Int).toNat) t230 t231 _ ?side1 ?side2 A6.out).mono ?_); (case side1 => repeat (first | exact HR229.out | (with_reducible refine Kd.C_alloc ?_ _) | (with_reducible refine Kd.C_drewN ?_ _) | (with_reducible refine Kd.C_drew ?_))); (case side2 => exact HC229.out); rintro e w' ⟨rfl, ⟨nd, rfl⟩⟩; refine ⟨_, rfl, ?_⟩))
        go_ret
        exact ⟨by first | rfl | (simp; done) | (simp [*]; done), by repeat (first | exact Drawn0.refl _ | apply Drawn0.step)⟩
      · rw [if_neg c5] at H
        exact absurd H (by simp)
    · rw [if_neg c4] at H
      exact absurd H (by simp)
  · rw [if_neg c3] at H
    exact absurd H (by simp)
end Go.Proofs.Ytafmjhmpnlkeiaa.P

namespace Go.Proofs.Ytafmjhmpnlkeiaa.P
open Go.RowKit Go.Proofs.YtafmjhmpnlkeiaaW.PrintWords Go.Proofs.YtafmjhmpnlkeiaaW.PrintLast Go.Proofs.YtafmjhmpnlkeiaaW.PrintMore
attribute [local go_sem] max2_int min2_int max_two min_two max_three min_three max_four min_four   -- for this text's walks alone
set_option linter.unusedVariables false
set_option linter.unusedSimpArgs false
/-! ### stolonref05_two: function 41 -/
def stolonref05_two.f (l0 : List Int) (a1 : Int) : Option (Int) := if 0 ≤ a1 then (if a1 < (l0.length : Int) then (if 0 ≤ (wrap64 (a1 + 1)) then (if (wrap64 (a1 + 1)) < (l0.length : Int) then (some (wrap64 ((wrap64 ((wrap64 (rd l0 a1)) * 256)) + (wrap64 (rd l0 (wrap64 (a1 + 1))))))) else (none)) else (none)) else (none)) else (none)
set_option maxHeartbeats 8000000 in
set_option maxRecDepth 100000 in
theorem stolonref05_two.calls (A0 : Option Addr) (c0 : Nat) (l0 : List Int) (a1 : Int) (r : Int) (w : World) (hr0 : Kd.C (Kd.int .u8) w A0 l0.length l0) (hc0 : l0.length ≤ c0) (h : stolonref05_two.f l0 a1 = some r) :
    Calls Try.prog 41 #[.slice A0 l0.length c0, .int .i64 a1] w fun e w' => e = .returned (.int .i64 r) ∧ Drawn0 w w' := by
  have HR0 := Aside0.mk hr0
  have HC0 := Aside0.mk hc0
  clear hr0 hc0
  have H : (if 0 ≤ a1 then (if a1 < (l0.length : Int) then (if 0 ≤ (wrap64 (a1 + 1)) then (if (wrap64 (a1 + 1)) < (l0.length : Int) then (some (wrap64 ((wrap64 ((wrap64 (rd l0 a1)) * 256)) + (wrap64 (rd l0 (wrap64 (a1 + 1))))))) else (none)) else (none)) else (none)) else (none)) = some r := h
  clear h
  by_cases c3 : 0 ≤ a1
  · rw [if_pos c3] at H
    have c3b0 : decide (0 ≤ a1) = true := decide_eq_true c3
    clear c3
    by_cases c4 : a1 < (l0.length : Int)
    · rw [if_pos c4] at H
      have c4b0 : decide (a1 < (l0.length : Int)) = true := decide_eq_true c4
      clear c4
      obtain ⟨ji5, hji5⟩ : ∃ j_ : Int, (wrap64 (a1 + 1)) = j_ := ⟨_, rfl⟩
      replace H : (if 0 ≤ (ji5) then (if (ji5) < (l0.length : Int) then (some (wrap64 ((wrap64 ((wrap64 (rd l0 a1)) * 256)) + (wrap64 (rd l0 (ji5)))))) else (none)) else (none)) = some r := by first | (rw [hji5] at H; exact H) | (simp only [hji5] at H ⊢; exact H)
      have hji5w : (IntKind.i64.wrap (a1 + 1)) = ji5 := (i64_w _).trans hji5
      by_cases c6 : 0 ≤ (ji5)
      · rw [if_pos c6] at H
        have c6b0 : decide (0 ≤ (ji5)) = true := decide_eq_true c6
        clear c6
        by_cases c7 : (ji5) < (l0.length : Int)
        · rw [if_pos c7] at H
          have c7b0 : decide ((ji5) < (l0.length : Int)) = true := decide_eq_true c7
          clear c7
          obtain rfl := Option.some.inj H
          have p232 : 0 ≤ (a1 : Int) := of_decide_eq_true (by first | (with_reducible assumption) | assumption)
          have q232 : a1 < (l0.length : Int) := of_decide_eq_true (by first | (with_reducible assumption) | assumption)
          obtain ⟨ad232, e232, hx232_0⟩ := Kd.at_int HR0.out a1 p232 q232
          cases e232
          replace p232 := eq_true p232
          replace q232 := eq_true q232
          have p233 : 0 ≤ ((ji5) : Int) := of_decide_eq_true (by first | (with_reducible assumption) | assumption)
          have q233 : (ji5) < (l0.length : Int) := of_decide_eq_true (by first | (with_reducible assumption) | assumption)
          obtain ⟨ad233, e233, hx233_0⟩ := Kd.at_int HR0.out (ji5) p233 q233
          obtain rfl : ad232 = ad233 := (by injection e233)
          replace p233 := eq_true p233
          replace q233 := eq_true q233
          go_enter Try.func41, Try.ntmps41
          go_wp2
          repeat (go_quiet (fail); try go_wp2)
          go_ret
          exact ⟨by first | rfl | (simp; done) | (simp only [← hji5] <;> (first | rfl | simp)) | (simp [*]; done), by repeat (first | exact Drawn0.refl _ | apply Drawn0.step)⟩
        · rw [if_neg c7] at H
          exact absurd H (by simp)
      · rw [if_neg c6] at H
        exact absurd H (by simp)
    · rw [if_neg c4] at H
      exact absurd H (by simp)
  · rw [if_neg c3] at H
    exact absurd H (by simp)
end Go.Proofs.Ytafmjhmpnlkeiaa.P

namespace Go.Proofs.Ytafmjhmpnlkeiaa.P
open Go.RowKit Go.Proofs.YtafmjhmpnlkeiaaW.PrintWords Go.Proofs.YtafmjhmpnlkeiaaW.PrintLast Go.Proofs.YtafmjhmpnlkeiaaW.PrintMore
attribute [local go_sem] max2_int min2_int max_two min_two max_three min_three max_four min_four   -- for this text's walks alone
set_option linter.unusedVariables false
set_option linter.unusedSimpArgs false
/-! ### stolonref05_many: function 42 -/
def stolonref05_many.l0 : Nat → List Int → Int → Int → List Int → Int → Option (List Int × Bool)
  | 0, _, _, _, _, _ => none
  | k + 1, x0, x1, x2, x8, x9 => if x9 < x2 then ((stolonref05_at.f x0 (wrap64 (x1 + (wrap64 (4 * x9))))).bind fun t234 => (if x8.length < 35184372088832 then (stolonref05_many.l0 k x0 x1 x2 (x8 ++ [t234]) (wrap64 (x9 + 1))) else (none))) else (some (x8, true))
def stolonref05_many.f (k : Nat) (l0 : List Int) (a1 : Int) (a2 : Int) : Option (List Int × Bool) := if (wrap64 (a1 + (wrap64 (4 * a2)))) > (l0.length : Int) then (some (([] : List Int), false)) else (stolonref05_many.l0 k l0 a1 a2 ([] : List Int) 0)
set_option maxHeartbeats 8000000 in
set_option maxRecDepth 100000 in
theorem stolonref05_many.calls (k : Nat) (A0 : Option Addr) (c0 : Nat) (l0 : List Int) (a1 : Int) (a2 : Int) (r1 : List Int) (r2 : Bool) (w : World) (hr0 : Kd.C (Kd.int .u8) w A0 l0.length l0) (hc0 : l0.length ≤ c0) (h : stolonref05_many.f k l0 a1 a2 = some (r1, r2)) :
    Calls Try.prog 42 #[.slice A0 l0.length c0, .int .i64 a1, .int .i64 a2] w fun e w' => ∃ v0_ : Value, e = .returned (.tuple #[v0_, .bool r2]) ∧ Kd.R (Kd.int .u32) 23 w' w.heap.size (fun _ => True) v0_ r1 ∧ Below w.heap.size w w' := by
  have HR0 := Aside0.mk hr0
  have HC0 := Aside0.mk hc0
  clear hr0 hc0
  have HB := Aside0.mk (Below.refl w.heap.size w)
  have H : (if (wrap64 (a1 + (wrap64 (4 * a2)))) > (l0.length : Int) then (some (([] : List Int), false)) else (stolonref05_many.l0 k l0 a1 a2 ([] : List Int) 0)) = some (r1, r2) := h
  clear h
  by_cases c4 : (wrap64 (a1 + (wrap64 (4 * a2)))) > (l0.length : Int)
  · rw [if_pos c4] at H
    have c4b0 : decide ((l0.length : Int) < (wrap64 (a1 + (wrap64 (4 * a2))))) = true := decide_eq_true c4
    clear c4
    simp only [Option.some.injEq, Prod.mk.injEq] at H
    obtain ⟨rfl, rfl⟩ := H
    go_enter Try.func42, Try.ntmps42
    go_wp2
    go_ret2
    exact ⟨_, by first | rfl | (simp [errW_none, errW_some] <;> rfl) | (simp [*, errW_none, errW_some] <;> rfl), by first | exact Kd.R_nil _ _ _ _ _ | exact Kd.N_nil _ _ _ _ _ | exact Kd.V_nil _ _ _ _ _ | exact Kd.Q_nil _ _ _ _ _ | exact Kd.S_nil _ _ _ _ _, by repeat (first | (with_reducible first | exact HB.out | apply below_alloc | apply pw_below_drewN | apply below_drew1) | exact HB.out)⟩
  · rw [if_neg c4] at H
    have c4b0 : decide ((l0.length : Int) < (wrap64 (a1 + (wrap64 (4 * a2))))) = false := decide_eq_false c4
    clear c4
    have H' := Aside0.mk H
    clear H
    go_enter Try.func42, Try.ntmps42
    go_wp2
    go_loopg [8, 9] k (fun kq v8 v9 w' => ∃ (x8_1 : List Int) (x9_1 : Int), v9 = .int .i64 x9_1 ∧ Aside0 (stolonref05_many.l0 kq l0 a1 a2 x8_1 x9_1 = some (r1, r2)) ∧ Aside0 (kq ≤ k) ∧ Aside0 (Kd.R (Kd.int .u32) 23 w' w.heap.size (fun _ => True) v8 x8_1) ∧ Aside0 (Below w.heap.size w w'))
    case atStart => exact ⟨(([] : List Int)), (0), (by first | rfl | (simp; done) | (simp [*]; done)), H', ⟨Nat.le_refl _⟩, ⟨by first | exact Kd.R_nil _ _ _ _ _ | exact Kd.N_nil _ _ _ _ _ | exact Kd.V_nil _ _ _ _ _ | exact Kd.Q_nil _ _ _ _ _ | exact Kd.S_nil _ _ _ _ _⟩, ⟨by repeat (first | (with_reducible first | exact HB.out | apply below_alloc | apply pw_below_drewN | apply below_drew1) | exact HB.out)⟩⟩
    case round =>
      clear H'
      try clear p2
      try clear c4
      try clear c4b0
      obtain ⟨x8_1, x9_1, rfl, HA, HK1, HO_8, HB⟩ := hrel
      cases gk with
      | zero => exact absurd HA.out (by simp [stolonref05_many.l0])
      | succ k1 =>
        have H := HA.out
        clear HA
        simp only [stolonref05_many.l0] at H
        by_cases c5 : x9_1 < a2
        · rw [if_pos c5] at H
          have c5b0 : decide (x9_1 < a2) = true := decide_eq_true c5
          clear c5
          replace H := Option.bind_eq_some_iff.mp H
          obtain ⟨t234, A60, H⟩ := H
          replace H : (if x8_1.length < 35184372088832 then (stolonref05_many.l0 k1 l0 a1 a2 (x8_1 ++ [t234]) (wrap64 (x9_1 + 1))) else (none)) = some (r1, r2) := H
          have A6 := Aside0.mk A60
          clear A60
          by_cases c7 : x8_1.length < 35184372088832
          · rw [if_pos c7] at H
            have LMc7 := Aside0.mk c7
            clear c7
            obtain ⟨y235, hy235⟩ : ∃ y_ : List Int, y_ = (x8_1 ++ [t234]) := ⟨_, rfl⟩
            replace H : (stolonref05_many.l0 k1 l0 a1 a2 y235 (wrap64 (x9_1 + 1))) = some (r1, r2) := by first | (rw [hy235]; with_reducible exact H) | (have H2_ := (Option.bind_some _ _).symm.trans H; rw [hy235]; with_reducible exact H2_) | (have H2_ := (Option.bind_some _ _).symm.trans H; with_reducible exact H2_) | with_reducible exact H | (rw [hy235]; exact H) | exact H
            have Ny235 := Aside0.mk hy235
            clear hy235
            have H' := Aside0.mk H
            clear H
            go_wp2_with (first | ((with_reducible refine gate_callee (f := 39) rfl ?_); refine goesL_ (some 28) rfl rfl Try.func39 (by kernel_rfl) rfl #[.slice A0 l0.length c0, .int .i64 (wrap64 (a1 + (wrap64 (4 * x9_1))))] rfl (by (try simp only [List.map_toArray, List.map_cons, List.map_nil]); first | done | rfl | (simp only [List.length_drop, List.length_take]; rfl)) ?_; (with_reducible refine (stolonref05_at.calls _ _ l0 (wrap64 (a1 + (wrap64 (4 * x9_1)))) t234 _ ?side1 ?side2 A6.out).mono ?_); (case side1 => repeat (first | exact (Kd.C_below HR0.out HB.out) | (with_reducible refine Kd.C_alloc ?_ _) | (with_reducible refine Kd.C_drewN ?_ _) | (with_reducible refine Kd.C_drew ?_))); (case side2 => exact HC0.out); rintro e w' ⟨rfl, ⟨nd, rfl⟩⟩; refine ⟨_, rfl, ?_⟩) | ((with_reducible refine gate_builtin (b := .append) (xs := #[.tmp 22, .tmp 29]) rfl ?_); at_builtin; refine Kd.R_append (Kd.int .u32) (w0 := w) w.heap.size rfl (.tmp 22) (.tmp 29) 24 23 (.int .u32 0) 4 rfl Try.underlying24 info23 rfl (by decide) (by omega) u8 x8_1 t234 [.int .u32 t234] (fun _ => True) (fun _ => False) rfl rfl ?aP (fun _ hk => hk.elim) ?aF ?aO ?aB ?aS ?aL ?_; (case aP => exact rfl); (case aB => exact (by repeat (first | (with_reducible first | exact HB.out | apply below_alloc | apply pw_below_drewN | apply below_drew1) | exact HB.out))); (case aF => exact (fun _ _ => trivial)); (case aO => exact (by (with_reducible repeat (first | apply Kd.R_alloc | apply Kd.R_drewN | apply Kd.R_drew)); exact HO_8.out)); (case aS => exact (below_size (by repeat (first | (with_reducible first | exact HB.out | apply below_alloc | apply pw_below_drewN | apply below_drew1) | exact HB.out)))); (case aL => have := LMc7.out; omega); intro v236 w8 ho hb hg hat; rw [← Ny235.out] at ho; have n0_ := Aside0.mk (hb); have n1_ := Aside0.mk (ho); clear HB; clear HO_8; have HB := n0_; have HO237 := n1_; clear n0_ n1_; clear ho hb hg hat))
            go_roundg k1
            case measure => have := HK1.out; omega
            case rel => exact ⟨(y235), (wrap64 (x9_1 + 1)), (by first | rfl | (simp; done) | (simp [*]; done)), H', ⟨by have := HK1.out; omega⟩, ⟨by (with_reducible repeat (first | apply Kd.R_alloc | apply Kd.R_drewN | apply Kd.R_drew)); exact HO237.out⟩, ⟨by repeat (first | (with_reducible first | exact HB.out | apply below_alloc | apply pw_below_drewN | apply below_drew1) | exact HB.out)⟩⟩
          · rw [if_neg c7] at H
            exact absurd H (by simp)
        · rw [if_neg c5] at H
          have c5b0 : decide (x9_1 < a2) = false := decide_eq_false c5
          clear c5
          simp only [Option.some.injEq, Prod.mk.injEq] at H
          obtain ⟨rfl, rfl⟩ := H
          go_wp2
          go_ret2
          exact ⟨_, by first | rfl | (simp [errW_none, errW_some] <;> rfl) | (simp [*, errW_none, errW_some] <;> rfl), by (with_reducible repeat (first | apply Kd.R_alloc | apply Kd.R_drewN | apply Kd.R_drew)); exact HO_8.out, by repeat (first | (with_reducible first | exact HB.out | apply below_alloc | apply pw_below_drewN | apply below_drew1) | exact HB.out)⟩
end Go.Proofs.Ytafmjhmpnlkeiaa.P
