/- Seat 5's texts, merged by a program of this session: GLaw3, GLaw4, GChunk, GWords, GRange, F56, GSum, F43, GBytes, GLay, GPut. Parts of the proof of IgmpWrites: whatever two messages, the law returns true. -/
import Derived.Test.YtafmjhmpnlkeiaaMD
import Derived.Test.YtafmjhmpnlkeiaaME
import Derived.Test.YtafmjhmpnlkeiaaMF
import Derived.RangeFuncNested
import Derived.RangeFuncBound
import Derived.RangeFuncCalls
import Derived.RangeFuncLeaves
import Derived.Shelf.Abstract
import Derived.Shelf.RegionOpen
import Derived.WalkKit
import Derived.OwnWalkIn
import Derived.TacticsInMore
import Derived.LoopNIn
import Derived.LoopIn
import Derived.Sort.BigQuietIn
import Derived.Test.YtafmjhmpnlkeiaaMA
import Derived.Laws.BitsLemmas
import Derived.Laws.CopyOwn

/- The plain law, third part: Right. -/
namespace Go.Proofs.Ytafmjhmpnlkeiaa.P
open Go.RowKit Go.Proofs.YtafmjhmpnlkeiaaW.PrintWords Go.Proofs.YtafmjhmpnlkeiaaW.PrintLast Go.Proofs.YtafmjhmpnlkeiaaW.PrintMore
set_option linter.unusedVariables false
set_option linter.unusedSimpArgs false

def askedV (a : Int) : Bool := decide (3758096640 ≤ a) && decide (a ≤ 4026531839)
theorem asked28 (a : Int) : stolonref01_Asked.f a = some (askedV a) := by
  unfold stolonref01_Asked.f askedV
  by_cases h : a ≥ 3758096640
  · rw [if_pos h]
    simp [show 3758096640 ≤ a from h]
  · rw [if_neg h]
    have : ¬ 3758096640 ≤ a := h
    simp [this]
def Msg.bare (m : Msg) : Bool := !m.quiet && decide (m.robust = 0) && decide (m.every = 0) && decide (m.srcs.length = 0)
def Msg.plain (m : Msg) : Prop := m.kind = 18 ∨ m.kind = 22 ∨ m.kind = 23
instance (m : Msg) : Decidable m.plain := inferInstanceAs (Decidable (m.kind = 18 ∨ m.kind = 22 ∨ m.kind = 23))
def rightV (m : Msg) : Bool :=
  if m.kind = 34 then m.bare && decide (m.ver = 0) && decide (m.code = 0) && decide (m.group = 0) && decide (m.recs.length ≤ 32) && !(m.recs.any oddRec)
  else if 0 < m.recs.length then false
  else if m.plain then m.bare && decide (m.ver = 0) && decide (m.code = 0) && askedV m.group
  else if m.kind = 17 then
    (if m.ver = 1 then m.bare && decide (m.code = 0) && decide (m.group = 0)
     else if m.ver = 2 then m.bare && decide (0 < m.code) && (decide (m.group = 0) || askedV m.group)
     else if m.ver = 3 then decide (m.robust < 8) && decide (m.srcs.length ≤ 64) && (askedV m.group || (decide (m.group = 0) && decide (m.srcs.length = 0)))
     else false)
  else false
theorem oddRec_eq (a : S44) : oddRec a = !(decide (1 ≤ a.f0) && decide (a.f0 ≤ 6) && askedV a.f1 && decide (a.f2.length ≤ 64)) := by
  unfold oddRec askedV
  congr 1
  simp only [Bool.and_assoc]
theorem right_l0 (m : Msg) (hm : m.short) (d : Nat) : ∀ x : Nat, m.recs.length - x = d → x ≤ m.recs.length → Ev (fun k => stolonref05_Right.l0 k (x : Int) m.kind m.ver m.code m.group m.quiet m.robust m.every m.srcs m.recs) (!((m.recs.drop x).any oddRec)) := by
  induction d with
  | zero =>
    intro x hd hx
    refine Ev.succ (g := fun _ => some true) (fun k => by simp only [stolonref05_Right.l0]; rw [if_neg (by omega)]) (Ev.const ?_)
    rw [List.drop_of_length_le (by omega)]
    rfl
  | succ d ih =>
    intro x hd hx
    have hxa : x < m.recs.length := by omega
    have hj3 : ∀ b : Bool, Ev (fun k => stolonref05_Right.j3 k (x : Int) b m.kind m.ver m.code m.group m.quiet m.robust m.every m.srcs m.recs) (!b && !((m.recs.drop (x + 1)).any oddRec)) := by
      intro b
      refine Ev.succ (fun k => by simp only [stolonref05_Right.j3]; rfl) ?_
      refine Ev.ite (fun h => Ev.const (by simp [h])) (fun h => ?_)
      refine Ev.congr (fun k => by rw [wrap_succ x m.recs.length hxa hm.2.1]) ((ih (x + 1) (by omega) (by omega)).val ?_)
      simp at h
      simp [h]
    rw [List.drop_eq_getElem_cons hxa, List.any_cons, oddRec_eq]
    generalize (m.recs.drop (x + 1)).any oddRec = rest at hj3
    refine Ev.succ (fun k => by simp only [stolonref05_Right.l0]; rw [if_pos (by omega), if_pos (by omega), rdT44_eq m.recs x hxa, asked28]) ?_
    generalize m.recs[x] = a
    refine Ev.bind (u := askedV a.f1) (Ev.const rfl) ?_
    refine Ev.ite (fun h => (hj3 _).val ?_) (fun h => Ev.ite (fun h1 => (hj3 _).val ?_) (fun h1 => Ev.ite (fun h2 => (hj3 _).val ?_) (fun h2 => (hj3 _).val ?_)))
    · have : ¬ 1 ≤ a.f0 := by omega
      simp [this]
    · have : ¬ a.f0 ≤ 6 := by omega
      simp [this]
    · have e1 : 1 ≤ a.f0 := by omega
      have e2 : a.f0 ≤ 6 := by omega
      by_cases e3 : a.f2.length ≤ 64
      · have e4 : ¬ ((a.f2.length : Int) > 64) := by omega
        simp [e1, e2, e3, e4, h2]
      · have e4 : ((a.f2.length : Int) > 64) := by omega
        simp [e1, e2, e3, e4, h2]
    · simp at h2
      simp [h2]
theorem right10j4 (m : Msg) (h34 : m.kind ≠ 34) (h0 : m.recs.length = 0) (x105 : Bool) (hx : x105 = decide m.plain) : Ev (fun k => stolonref05_Right.j4 k m.bare (askedV m.group) x105 m.kind m.ver m.code m.group m.quiet m.robust m.every m.srcs m.recs) (rightV m) := by
  refine Ev.succ (fun k => by simp only [stolonref05_Right.j4]; rfl) ?_
  unfold rightV
  have hr0 : ¬ 0 < m.recs.length := by omega
  rw [if_neg h34, if_neg hr0]
  refine Ev.ite (fun h => ?_) (fun h => ?_)
  · rw [hx] at h
    simp only [decide_eq_true_eq] at h
    rw [if_pos h]
    refine Ev.ite (fun h1 => Ev.ite (fun h2 => Ev.ite (fun h3 => Ev.const ?_) (fun h3 => Ev.const ?_)) (fun h2 => Ev.const ?_)) (fun h1 => Ev.const ?_)
    · simp [h1, h2, h3]
    · simp [h3]
    · simp [h2]
    · simp at h1
      simp [h1]
  · rw [hx] at h
    simp only [decide_eq_true_eq] at h
    rw [if_neg h]
    refine Ev.ite (fun h17 => ?_) (fun h17 => ?_)
    · rw [if_pos h17]
      refine Ev.ite (fun h1 => ?_) (fun h1 => ?_)
      · rw [if_pos h1]
        refine Ev.ite (fun h2 => Ev.ite (fun h3 => Ev.const ?_) (fun h3 => Ev.const ?_)) (fun h2 => Ev.const ?_)
        · by_cases e : m.group = 0 <;> simp [h2, h3, e]
        · simp [h3]
        · simp at h2
          simp [h2]
      · rw [if_neg h1]
        refine Ev.ite (fun h4 => ?_) (fun h4 => ?_)
        · rw [if_pos h4]
          refine Ev.ite (fun h2 => Ev.ite (fun h3 => Ev.ite (fun h5 => Ev.const ?_) (fun h5 => Ev.const ?_)) (fun h3 => Ev.const ?_)) (fun h2 => Ev.const ?_)
          · have : 0 < m.code := h3
            simp [h2, this, h5]
          · have : 0 < m.code := h3
            simp [h2, this, h5]
          · have : ¬ 0 < m.code := h3
            simp [this]
          · simp at h2
            simp [h2]
        · rw [if_neg h4]
          refine Ev.ite (fun h6 => ?_) (fun h6 => ?_)
          · rw [if_pos h6]
            refine Ev.ite (fun h2 => Ev.ite (fun h3 => Ev.ite (fun h5 => Ev.const ?_) (fun h5 => Ev.ite (fun h7 => Ev.const ?_) (fun h7 => Ev.const ?_))) (fun h3 => Ev.const ?_)) (fun h2 => Ev.const ?_)
            · have : m.srcs.length ≤ 64 := by omega
              simp [h2, this, h5]
            · have : m.srcs.length ≤ 64 := by omega
              simp at h5
              by_cases e : m.srcs.length = 0
              · simp [h2, this, h5, h7, e]
              · have e' : ¬ ((m.srcs.length : Int) = 0) := by omega
                simp [h2, this, h5, h7, e, show askedV 0 = false from rfl]
            · simp at h5
              simp [h5, h7]
            · have : ¬ m.srcs.length ≤ 64 := by omega
              simp [this]
            · have : ¬ m.robust < 8 := h2
              simp [this]
          · rw [if_neg h6]
            exact Ev.const rfl
    · rw [if_neg h17]
      exact Ev.const rfl
theorem right10j0 (m : Msg) (hm : m.short) : Ev (fun k => stolonref05_Right.j0 k m.bare m.kind m.ver m.code m.group m.quiet m.robust m.every m.srcs m.recs) (rightV m) := by
  refine Ev.succ (fun k => by simp only [stolonref05_Right.j0]; rw [asked28]) ?_
  refine Ev.bind (u := askedV m.group) (Ev.const rfl) ?_
  refine Ev.ite (fun h => ?_) (fun h => ?_)
  · have hj1 : ∀ b : Bool, Ev (fun k => stolonref05_Right.j1 k b m.kind m.ver m.code m.group m.quiet m.robust m.every m.srcs m.recs) (!b && !(m.recs.any oddRec)) := by
      intro b
      refine Ev.succ (fun k => by simp only [stolonref05_Right.j1]; rfl) ?_
      refine Ev.ite (fun h => Ev.const (by simp [h])) (fun h => ?_)
      refine (right_l0 m hm _ 0 rfl (by omega)).val ?_
      simp at h
      simp [h]
    unfold rightV
    rw [if_pos h]
    refine Ev.ite (fun h1 => Ev.ite (fun h2 => Ev.ite (fun h3 => Ev.ite (fun h4 => (hj1 _).val ?_) (fun h4 => (hj1 _).val ?_)) (fun h3 => (hj1 _).val ?_)) (fun h2 => (hj1 _).val ?_)) (fun h1 => (hj1 _).val ?_)
    · by_cases e : m.recs.length ≤ 32
      · have e' : ¬ ((m.recs.length : Int) > 32) := by omega
        simp [h1, h2, h3, h4, e, e']
      · have e' : ((m.recs.length : Int) > 32) := by omega
        simp [h1, h2, h3, h4, e, e']
    · simp [h4]
    · simp [h3]
    · simp [h2]
    · simp at h1
      simp [h1]
  · refine Ev.ite (fun h0 => Ev.const ?_) (fun h0 => ?_)
    · have : 0 < m.recs.length := by omega
      simp [rightV, h, this]
    · have h0' : m.recs.length = 0 := by omega
      refine Ev.ite (fun h1 => ?_) (fun h1 => Ev.ite (fun h2 => ?_) (fun h2 => ?_))
      · exact right10j4 m h h0' _ (by simp [Msg.plain, h1])
      · exact right10j4 m h h0' _ (by simp [Msg.plain, h2])
      · exact right10j4 m h h0' _ (by by_cases e : m.kind = 23 <;> simp [Msg.plain, h1, h2, e])
theorem right10 (m : Msg) (hm : m.short) : Ev (fun k => stolonref05_Right.f k m.kind m.ver m.code m.group m.quiet m.robust m.every m.srcs m.recs) (rightV m) := by
  have hb := right10j0 m hm
  unfold stolonref05_Right.f
  refine Ev.ite (fun h0 => ?_) (fun h0 => Ev.ite (fun h1 => Ev.ite (fun h2 => ?_) (fun h2 => ?_)) (fun h1 => ?_))
  · have : m.bare = false := by simp [Msg.bare, h0]
    rw [this] at hb
    exact hb
  · simp at h0
    have : m.bare = ((m.srcs.length : Int) == 0) := by
      by_cases e : m.srcs.length = 0
      · simp [Msg.bare, h0, h1, h2, e]
      · have e' : ¬ ((m.srcs.length : Int) = 0) := by omega
        simp [Msg.bare, h0, h1, h2, e]
    rw [this] at hb
    exact hb
  · have : m.bare = false := by simp [Msg.bare, h2]
    rw [this] at hb
    exact hb
  · have : m.bare = false := by simp [Msg.bare, h1]
    rw [this] at hb
    exact hb
end Go.Proofs.Ytafmjhmpnlkeiaa.P

/- The plain law, fourth part: Right of the program. -/
namespace Go.Proofs.Ytafmjhmpnlkeiaa.P
open Go.RowKit Go.Proofs.YtafmjhmpnlkeiaaW.PrintWords Go.Proofs.YtafmjhmpnlkeiaaW.PrintLast Go.Proofs.YtafmjhmpnlkeiaaW.PrintMore
set_option linter.unusedVariables false
set_option linter.unusedSimpArgs false

theorem sameV_flat (m : Msg) (k v c g : Int) : sameV m ⟨k, v, c, g, false, 0, 0, [], []⟩ = (decide (m.kind = k) && decide (m.ver = v) && decide (m.code = c) && decide (m.group = g) && m.bare && decide (m.recs.length = 0)) := by
  rw [Bool.eq_iff_iff]
  simp [sameV, Msg.bare, recsEq_iff]
  grind
theorem sameV_recs (m : Msg) (k v c g : Int) : sameV m ⟨k, v, c, g, false, 0, 0, [], m.recs⟩ = (decide (m.kind = k) && decide (m.ver = v) && decide (m.code = c) && decide (m.group = g) && m.bare) := by
  rw [Bool.eq_iff_iff]
  simp [sameV, Msg.bare, recsEq_iff]
  grind
theorem Ev.same {α : Type} {f : Nat → Option α} {v : α} (h : Ev f v) : Ev (fun k => (f k).bind fun t => some t) v := Ev.bind h (Ev.const rfl)
theorem query23j (m : Msg) (hm : m.short) (x : Bool) (h17 : m.kind = 17) (hx : x = (decide (m.group = 0) || askedV m.group)) : Ev (fun k => igmp_query.j0 k x m.kind m.ver m.code m.group m.quiet m.robust m.every m.srcs m.recs) (rightV m) := by
  have h34 : m.kind ≠ 34 := by omega
  have hp : ¬ m.plain := by unfold Msg.plain; omega
  refine Ev.succ (fun k => by simp only [igmp_query.j0]; rfl) ?_
  unfold rightV
  rw [if_neg h34]
  refine Ev.ite (fun h1 => ?_) (fun h1 => Ev.ite (fun h2 => ?_) (fun h2 => Ev.ite (fun h3 => ?_) (fun h3 => ?_)))
  · refine (Ev.same (same12 m ⟨17, 1, 0, 0, false, 0, 0, [], []⟩ hm)).val ?_
    rw [sameV_flat]
    by_cases hr : 0 < m.recs.length
    · rw [if_pos hr]
      have : ¬ m.recs.length = 0 := by omega
      rw [decide_eq_false this, Bool.and_false]
    · rw [if_neg hr, if_neg hp, if_pos h17, if_pos h1]
      have : m.recs.length = 0 := by omega
      rw [Bool.eq_iff_iff]
      simp [h17, h1, this]
      grind
  · by_cases hr : 0 < m.recs.length
    · rw [if_pos hr]
      refine Ev.ite (fun h4 => Ev.ite (fun h5 => ?_) (fun h5 => Ev.const rfl)) (fun h4 => Ev.const rfl)
      refine (Ev.same (same12 m ⟨17, 2, m.code, m.group, false, 0, 0, [], []⟩ hm)).val ?_
      rw [sameV_flat]
      have : ¬ m.recs.length = 0 := by omega
      rw [decide_eq_false this, Bool.and_false]
    · rw [if_neg hr, if_neg hp, if_pos h17, if_neg h1, if_pos h2, ← hx]
      refine Ev.ite (fun h4 => Ev.ite (fun h5 => ?_) (fun h5 => Ev.const ?_)) (fun h4 => Ev.const ?_)
      · refine (Ev.same (same12 m ⟨17, 2, m.code, m.group, false, 0, 0, [], []⟩ hm)).val ?_
        rw [sameV_flat]
        have h0 : m.recs.length = 0 := by omega
        have h5' : 0 < m.code := h5
        simp [h17, h2, h0, h4, h5']
      · have h5' : ¬ 0 < m.code := h5
        simp [h5']
      · simp at h4
        simp [h4]
  · refine Ev.ite (fun h4 => Ev.ite (fun h5 => Ev.ite (fun h6 => Ev.ite (fun h7 => Ev.ite (fun h8 => Ev.const ?_) (fun h8 => Ev.const ?_)) (fun h7 => Ev.const ?_)) (fun h6 => Ev.const ?_)) (fun h5 => Ev.const ?_)) (fun h4 => Ev.const ?_)
    all_goals
      by_cases hr : 0 < m.recs.length
      · first | (rw [if_pos hr]; done) | (exfalso; omega)
      rw [if_neg hr, if_neg hp, if_pos h17, if_neg h1, if_neg h2, if_pos h3]
    · have e1 : m.robust < 8 := by omega
      have e2 : m.srcs.length ≤ 64 := by omega
      have e3 : askedV m.group = false := by rw [h8]; rfl
      by_cases e : m.srcs.length = 0
      · simp [e1, e3, e, h8, show askedV 0 = false from rfl]
      · simp [e1, e2, e3, e, h8, show askedV 0 = false from rfl]
    · have e1 : m.robust < 8 := by omega
      have e2 : m.srcs.length ≤ 64 := by omega
      have e3 : askedV m.group = true := by
        rw [h4] at hx
        simpa [h8] using hx.symm
      simp [e1, e2, e3]
    · have e2 : ¬ m.srcs.length ≤ 64 := by omega
      simp [e2]
    · exfalso
      omega
    · have e1 : ¬ m.robust < 8 := by omega
      simp [e1]
    · have hg : (decide (m.group = 0) || askedV m.group) = false := by rw [← hx]; simpa using h4
      rw [Bool.or_eq_false_iff] at hg
      simp [hg.1, hg.2]
  · refine Ev.const ?_
    by_cases hr : 0 < m.recs.length
    · rw [if_pos hr]
    · rw [if_neg hr, if_neg hp, if_pos h17, if_neg h1, if_neg h2, if_neg h3]
theorem query23 (m : Msg) (hm : m.short) (h17 : m.kind = 17) : Ev (fun k => igmp_query.f k m.kind m.ver m.code m.group m.quiet m.robust m.every m.srcs m.recs) (rightV m) := by
  unfold igmp_query.f
  refine Ev.ite (fun h => ?_) (fun h => ?_)
  · exact query23j m hm true h17 (by simp [h])
  · refine Ev.bind (u := askedV m.group) (Ev.const (asked_f _)) ?_
    exact query23j m hm _ h17 (by simp [h])
theorem right9j (m : Msg) (hm : m.short) (x : Bool) (h17 : m.kind ≠ 17) (hx : x = decide m.plain) : Ev (fun k => igmp_Right.j0 k m.kind x m.kind m.ver m.code m.group m.quiet m.robust m.every m.srcs m.recs) (rightV m) := by
  refine Ev.succ (fun k => by simp only [igmp_Right.j0]; rfl) ?_
  unfold rightV
  refine Ev.ite (fun h => ?_) (fun h => ?_)
  · rw [hx, decide_eq_true_eq] at h
    have h34 : m.kind ≠ 34 := by unfold Msg.plain at h; omega
    rw [if_neg h34]
    refine Ev.bind (u := askedV m.group) (Ev.const (asked_f _)) ?_
    refine Ev.ite (fun h1 => ?_) (fun h1 => Ev.const ?_)
    · refine (Ev.same (same12 m ⟨m.kind, 0, 0, m.group, false, 0, 0, [], []⟩ hm)).val ?_
      rw [sameV_flat]
      by_cases hr : 0 < m.recs.length
      · have : ¬ m.recs.length = 0 := by omega
        rw [if_pos hr, decide_eq_false this, Bool.and_false]
      · have : m.recs.length = 0 := by omega
        rw [if_neg hr, if_pos h, h1]
        rw [Bool.eq_iff_iff]
        simp [this]
        grind
    · simp only [Bool.not_eq_true] at h1
      rw [if_pos h, h1]
      simp
  · rw [hx, decide_eq_true_eq] at h
    refine Ev.ite (fun h1 => ?_) (fun h1 => Ev.const ?_)
    · rw [if_pos h1]
      refine Ev.ite (fun h2 => ?_) (fun h2 => Ev.const ?_)
      · refine Ev.bind (u := m.recs.any oddRec) (Ev.const rfl) ?_
        have e2 : m.recs.length ≤ 32 := by omega
        refine Ev.ite (fun h3 => Ev.const ?_) (fun h3 => ?_)
        · simp only [h3, Bool.not_true, Bool.and_false]
        · simp only [Bool.not_eq_true] at h3
          refine (Ev.same (same12 m ⟨m.kind, 0, 0, 0, false, 0, 0, [], m.recs⟩ hm)).val ?_
          rw [sameV_recs, h3]
          rw [Bool.eq_iff_iff]
          simp [e2]
          grind
      · have e2 : ¬ m.recs.length ≤ 32 := by omega
        simp [e2]
    · rw [if_neg h1, if_neg h, if_neg h17]
      simp
theorem right9 (m : Msg) (hm : m.short) : Ev (fun k => igmp_Right.f k m.kind m.ver m.code m.group m.quiet m.robust m.every m.srcs m.recs) (rightV m) := by
  unfold igmp_Right.f
  refine Ev.ite (fun h => ?_) (fun h => Ev.ite (fun h1 => ?_) (fun h1 => Ev.ite (fun h2 => ?_) (fun h2 => ?_)))
  · exact Ev.same (query23 m hm h)
  · exact right9j m hm _ h (by simp [Msg.plain, h1])
  · exact right9j m hm _ h (by simp [Msg.plain, h2])
  · exact right9j m hm _ h (by by_cases e : m.kind = 23 <;> simp [Msg.plain, h1, h2, e])
end Go.Proofs.Ytafmjhmpnlkeiaa.P

/- slices.Chunk(b, 2): the maker, and the iterator's contract. -/
namespace Go.Proofs.Ytafmjhmpnlkeiaa.P
open Go.RowKit Go.Shelf Go.Proofs.YtafmjhmpnlkeiaaW.PrintWords Go.Proofs.YtafmjhmpnlkeiaaW.PrintLast Go.Proofs.YtafmjhmpnlkeiaaW.PrintMore
attribute [local go_sem] Oper.semAt_some
attribute [local go_sem] max2_int min2_int max_two min_two max_three min_three max_four min_four
set_option linter.unusedVariables false
set_option linter.unusedSimpArgs false

set_option maxHeartbeats 1000000 in
set_option maxRecDepth 100000 in
theorem chunk59 (A0 : Option Addr) (n c : Nat) (w : World) :
    Calls Try.prog 59 #[.slice A0 n c, .int .i64 2] w fun e w' => e = .returned (.func (.func 60) #[] #[.pointer (some ⟨w.heap.size, 0, none⟩), .pointer (some ⟨w.heap.size + 1, 0, none⟩)]) ∧ w' = (w.alloc (.cells #[.slice A0 n c] 30)).alloc (.cells #[.int .i64 2] 3) := by
  go_enter Try.func59, Try.ntmps59
  go_wp2
  go_ret
  exact ⟨rfl, rfl⟩

/-- The parts come two by two: the i-th begins at 2 i. -/
abbrev Half (len : Nat) := { i : Nat // 2 * i < len }
def partLen (len i : Nat) : Nat := min 2 (len - 2 * i)
def partVal (ad : Addr) (len i : Nat) : Value := .slice (some (ad.add (2 * i))) (partLen len i) (partLen len i)
/-- What a round must leave to the iterator: its two variables. -/
def ChunkKeeps (Bs Bn : Nat) (W W' : World) : Prop := W'.cell? ⟨Bs, 0, none⟩ = W.cell? ⟨Bs, 0, none⟩ ∧ W'.cell? ⟨Bn, 0, none⟩ = W.cell? ⟨Bn, 0, none⟩
set_option maxHeartbeats 2000000 in
set_option maxRecDepth 100000 in
theorem chunk60 (l Bs Bn len cap : Nat) (ad : Addr) (hlen : len ≤ cap) (hcap : len ≤ 140737488355328) (J Jx : List (Half len) → World → Prop) (hJd : ∀ s W q, J s W → J s (World.drewN W q))
    (hY : ∀ pre x W, J pre W → pre.length < (len + 1) / 2 → YieldAt Fence.wide 1 Try.prog l #[partVal ad len x.1] W fun e W' =>
      (e = .returned (.bool true) ∧ J (pre ++ [x]) W' ∧ ChunkKeeps Bs Bn W W') ∨ (e = .returned (.bool false) ∧ Jx (pre ++ [x]) W'))
    (W : World) (hBs : W.cell? ⟨Bs, 0, none⟩ = some (.slice (some ad) len cap)) (hBn : W.cell? ⟨Bn, 0, none⟩ = some (.int .i64 2)) (h0 : J [] W) :
    CallsIn Fence.wide 2 Try.prog 60 #[.func (.yield l) #[] #[], .pointer (some ⟨Bs, 0, none⟩), .pointer (some ⟨Bn, 0, none⟩)] W fun e W' => (∃ v, e = .returned v) ∧
      ((∃ ys : List (Half len), ys.map (·.1) = List.range ((len + 1) / 2) ∧ J ys W') ∨ (∃ pre : List (Half len), Jx pre W')) := by
  refine callsIn_of_wp Try.func60 rfl trivial ?_ rfl
  simp only [Try.ntmps60, List.size_toArray, List.length_cons, List.length_nil, Nat.reduceAdd, Nat.reduceSub, Array.replicate_succ, Array.replicate_zero, List.push_toArray, List.append_toArray, List.nil_append, List.cons_append]
  gi_wp2
  gi_loopw [4] (fun v wr => ∃ (k : Nat) (ys : List (Half len)), 2 * k ≤ len + 1 ∧ v = .int .i64 (2 * k : Nat) ∧ ys.map (·.1) = List.range k ∧ J ys wr ∧ wr.cell? ⟨Bs, 0, none⟩ = some (.slice (some ad) len cap) ∧ wr.cell? ⟨Bn, 0, none⟩ = some (.int .i64 2))
    (fun v _ => len + 2 - (intOf v).toNat)
  case atStart => exact ⟨0, [], by omega, rfl, rfl, h0, hBs, hBn⟩
  case round =>
    obtain ⟨k, ys, hk, rfl, hys, hJ, hs, hn⟩ := hrel
    by_cases hlt : 2 * k < len
    · have hz : decide (((2 * k : Nat) : Int) < (len : Int)) = true := by simp; omega
      have HD := Aside0.mk hJd
      have HYS := Aside0.mk hys
      have HJ := Aside0.mk hJ
      have HY := Aside0.mk hY
      clear hJd hys hJ hY
      gi_wp2
      gi_big_quiet_th (fail)
      obtain ⟨m, hm, hm1, hm2⟩ : ∃ m, partLen len k = m ∧ m ≤ 2 ∧ 2 * k + m ≤ len := ⟨_, rfl, by unfold partLen; omega, by unfold partLen; omega⟩
      have hm0 : 1 ≤ m := by rw [← hm]; unfold partLen; omega
      have hc2 : 2 * k < cap := by omega
      have hc3 : ¬ cap = 2 * k := by omega
      have hc4 : ¬ cap - 2 * k = 0 := by omega
      have hc5 : ¬ m = 0 := by omega
      rw [show (if ((len - 2 * k : Nat) : Int) < 2 then ((len - 2 * k : Nat) : Int) else 2) = (m : Int) from by rw [← hm]; unfold partLen; split <;> omega]
      have hlen2 : ys.length = k := by have := congrArg List.length HYS.out; simpa using this
      obtain ⟨fn, tmps, assign, body, hy, hR⟩ := HY.out ys ⟨k, hlt⟩ (wr.drewN nq) (HD.out _ _ nq HJ.out) (by omega)
      simp only [partVal, hm] at hy
      have HM := Aside0.mk hm
      clear hm hlen2
      gi_wp2
      refine hR.mono ?_
      rintro e W3 (⟨rfl, hJ3, hk3⟩ | ⟨rfl, hJx3⟩)
      · have hs3 : W3.cell? ⟨Bs, 0, none⟩ = some (.slice (some ad) len cap) := hk3.1.trans hs
        have hn3 : W3.cell? ⟨Bn, 0, none⟩ = some (.int .i64 2) := hk3.2.trans hn
        have HJ3 := Aside0.mk hJ3
        clear hJ3 hk3
        gi_wp2
        go_roundw
        case rel => exact ⟨k + 1, ys ++ [⟨k, hlt⟩], by omega, by go_num, by rw [List.map_append, HYS.out, List.range_succ]; rfl, HJ3.out, hs3, hn3⟩
        case measure => simp [intOf]; omega
      · gi_wp2
        refine bodyPost_ret (results_none rfl _ _ _) rfl ?_
        exact ⟨⟨_, rfl⟩, .inr ⟨_, hJx3⟩⟩
    · have hz : decide (((2 * k : Nat) : Int) < (len : Int)) = false := by simp; omega
      gi_wp2
      go_end0
      exact ⟨⟨_, rfl⟩, .inl ⟨ys, by rw [hys]; congr 1; omega, hJ⟩⟩
end Go.Proofs.Ytafmjhmpnlkeiaa.P

/- sum.words: the maker, and its iterator. -/
namespace Go.Proofs.Ytafmjhmpnlkeiaa.P
open Go.RowKit Go.Shelf Go.Proofs.YtafmjhmpnlkeiaaW.PrintWords Go.Proofs.YtafmjhmpnlkeiaaW.PrintLast Go.Proofs.YtafmjhmpnlkeiaaW.PrintMore
attribute [local go_sem] Oper.semAt_some
set_option linter.unusedVariables false
set_option linter.unusedSimpArgs false

theorem wraps_u16 (n : Int) (h₀ : 0 ≤ n) (h₁ : n < 2 ^ 16) : IntKind.u16.wrap n = n := by
  simp [IntKind.wrap, IntKind.bits, IntKind.signed]
  omega
theorem u16_or8 {a b : Int} (h0 : 0 ≤ a) (h1 : a ≤ 255) (h2 : 0 ≤ b) (h3 : b ≤ 255) : bits .or .u16 (a * 256) b = a * 256 + b :=
  bits_join .u16 16 (by decide) wraps_u16 8 (a * 256) b (by omega) (by omega) (by omega) h2 (by omega) (by omega)
/-- A round's promise, in whatever round of whatever depth: the fence is the wide one. -/
theorem yield_any {P : Program} {l m m' l2 : Nat} {args : Array Value} {W : World} {R : Ending → World → Prop} (h : YieldAt Fence.wide m P l args W R) : YieldAt (Fence.wide.inRound l2) m' P l args W R := by
  obtain ⟨fn, tmps, assign, body, hy, hR⟩ := h
  exact ⟨fn, tmps, assign, body, hy, hR.1, fun c cs _ => hR.2 c cs (room_wide _)⟩
theorem yield_wide {P : Program} {l m m' : Nat} {args : Array Value} {W : World} {R : Ending → World → Prop} (h : YieldAt Fence.wide m P l args W R) : YieldAt Fence.wide m' P l args W R := by
  obtain ⟨fn, tmps, assign, body, hy, hR⟩ := h
  exact ⟨fn, tmps, assign, body, hy, hR.1, fun c cs _ => hR.2 c cs (room_wide _)⟩
set_option maxHeartbeats 1000000 in
set_option maxRecDepth 100000 in
theorem words55 (A0 : Option Addr) (n c : Nat) (w : World) :
    Calls Try.prog 55 #[.slice A0 n c] w fun e w' => e = .returned (.func (.func 58) #[] #[.pointer (some ⟨w.heap.size, 0, none⟩)]) ∧ w' = w.alloc (.cells #[.slice A0 n c] 30) := by
  go_enter Try.func55, Try.ntmps55
  go_wp2
  go_ret
  exact ⟨rfl, rfl⟩
/-- The i-th word. -/
def wordAt (l : List Int) (i : Nat) : Int := l.getD (2 * i) 0 * 256 + (if 2 * i + 1 < l.length then l.getD (2 * i + 1) 0 else 0)
def wordsOf (l : List Int) : List Int := (List.range ((l.length + 1) / 2)).map (wordAt l)
def bytesOk (l : List Int) : Prop := ∀ j, 0 ≤ l.getD j 0 ∧ l.getD j 0 ≤ 255

theorem chunk_stops (W3 : World) (Bs Bn len cap : Nat) (ad : Addr) (hlen : len ≤ cap) (hcap : len ≤ 140737488355328) (hs : Bs < W3.heap.size) (hn : Bn < W3.heap.size)
    (hBs : W3.cell? ⟨Bs, 0, none⟩ = some (.slice (some ad) len cap)) (hBn : W3.cell? ⟨Bn, 0, none⟩ = some (.int .i64 2)) :
    SeqStopsK Fence.wide 2 Try.prog 60 #[.pointer (some ⟨Bs, 0, none⟩), .pointer (some ⟨Bn, 0, none⟩)] (fun x : Half len => #[partVal ad len x.1]) (ChunkKeeps Bs Bn) (fun ys => ys.map (·.1) = List.range ((len + 1) / 2)) (fun _ => True) ((len + 1) / 2) W3 := by
  intro l J Jx W hW hJ hJx hY h0
  refine (chunk60 l Bs Bn len cap ad hlen hcap J Jx (fun s W q h => ?_) hY W ((hW.cell (p := ⟨Bs, 0, none⟩) hs).trans hBs) ((hW.cell (p := ⟨Bn, 0, none⟩) hn).trans hBn) h0).mono ?_
  · exact hJ s W _ none h (grown_of_below (pw_below_drewN (Below.refl _ _) q) none) (fun r e => by cases e)
  · rintro e W' ⟨hv, ⟨ys, h1, h2⟩ | ⟨pre, h2⟩⟩
    · exact ⟨hv, .inl ⟨ys, h1, h2⟩⟩
    · exact ⟨hv, .inr ⟨pre, trivial, h2⟩⟩

theorem new_cell (W : World) (v : Value) (t : TypeId) : (W.alloc (.cells #[v] t)).cell? ⟨W.heap.size, 0, none⟩ = some v := World.cell?_alloc_at _ _ _ _ rfl
theorem new_cells3 (W : World) (u v x : Value) (a b c : TypeId) : (((W.alloc (.cells #[u] a)).alloc (.cells #[v] b)).alloc (.cells #[x] c)).cell? ⟨W.heap.size, 0, none⟩ = some u ∧ (((W.alloc (.cells #[u] a)).alloc (.cells #[v] b)).alloc (.cells #[x] c)).cell? ⟨W.heap.size + 1, 0, none⟩ = some v ∧ (((W.alloc (.cells #[u] a)).alloc (.cells #[v] b)).alloc (.cells #[x] c)).cell? ⟨W.heap.size + 2, 0, none⟩ = some x := by
  refine ⟨pw_cell_below (below_alloc (below_alloc (Below.refl _ _) _) _) (new_cell W u a), ?_, ?_⟩
  · have h := new_cell (W.alloc (.cells #[u] a)) v b
    rw [World.size_alloc] at h
    exact pw_cell_below (below_alloc (Below.refl _ _) _) h
  · have h := new_cell ((W.alloc (.cells #[u] a)).alloc (.cells #[v] b)) x c
    rw [World.size_alloc, World.size_alloc] at h
    exact h
theorem cell_put_other (X : World) (q : Nat) (o' : Obj) (p : Addr) (h : p.block ≠ q) : (X.putObj q o').cell? p = X.cell? p := World.cell?_of_block (w := X) (World.putObj_heap_other h)
theorem _root_.Go.World.grownBy.weaken_some {w w' : World} (h : w.grownBy w' none) (b : Nat) : w.grownBy w' (some b) := ⟨h.os, h.tape, h.output, h.size, fun i hi _ => h.block i hi (by simp)⟩

set_option maxHeartbeats 2000000 in
set_option maxRecDepth 100000 in
theorem words58 (l So B0 Bw cap : Nat) (ad : Addr) (l0 : List Int) (hlen : l0.length ≤ cap) (hcap : l0.length ≤ 140737488355328) (hb : bytesOk l0) (J : List Int → World → Prop)
    (hJ : ∀ s W W', J s W → Below B0 W W' → J s W')
    (hY : ∀ pre x W, J pre W → YieldAt Fence.wide 1 Try.prog l #[.int .u16 x] W fun e W' => e = .returned (.bool true) ∧ J (pre ++ [x]) W' ∧ W.grownBy W' (some So))
    (W : World) (hB0 : B0 ≤ W.heap.size) (hso : So < B0) (hBw : W.cell? ⟨Bw, 0, none⟩ = some (.slice (some ad) l0.length cap)) (hne : ad.block ≠ So) (hc : ∀ j, j < l0.length → W.cell? (ad.add j) = some (.int .u8 (l0.getD j 0))) (h0 : J [] W) :
    CallsIn Fence.wide 3 Try.prog 58 #[.func (.yield l) #[] #[], .pointer (some ⟨Bw, 0, none⟩)] W fun e W' => (∃ v, e = .returned v) ∧ J (wordsOf l0) W' ∧ W.grownBy W' (some So) := by
  refine callsIn_of_wp_marks Try.func58 rfl trivial ?_ rfl
  simp only [Try.ntmps58, List.size_toArray, List.length_cons, List.length_nil, Nat.reduceAdd, Nat.reduceSub, Array.replicate_succ, Array.replicate_zero, List.push_toArray, List.append_toArray, List.nil_append, List.cons_append]
  have HJ := Aside0.mk hJ
  have HY := Aside0.mk hY
  clear hJ hY
  have hBw2 : ∀ o, (W.alloc o).cell? ⟨Bw, 0, none⟩ = some (.slice (some ad) l0.length cap) := fun o => pw_cell_below (below_alloc (Below.refl _ W) o) hBw
  gi_wp2
  refine ⟨trivial, ?_⟩
  refine (callsIn_wide.2 (chunk59 _ _ _ _)).mono ?_
  rintro e w' ⟨rfl, rfl⟩
  gi_wp2
  obtain ⟨W3, hW3⟩ : ∃ W3, ((W.alloc (.cells #[.func (.yield l) #[] #[]] 89)).alloc (.cells #[.slice (some ad) l0.length cap] 30)).alloc (.cells #[.int .i64 2] 3) = W3 := ⟨_, rfl⟩
  have hbl : Below W.heap.size W W3 := by rw [← hW3]; exact ((((Below.refl _ W).alloc (Nat.le_refl _) _).alloc (by simp) _).alloc (by simp; omega) _)
  have hsz : W3.heap.size = W.heap.size + 3 := by rw [← hW3]; simp
  obtain ⟨c1, c2, c3⟩ := new_cells3 W (.func (.yield l) #[] #[]) (.slice (some ad) l0.length cap) (.int .i64 2) 89 30 3
  rw [hW3] at c1 c2 c3 ⊢
  have hgr : W.grownBy W3 none := grown_of_below hbl none
  refine wpIn_rangeFunc_ownG rfl (by omega) (gf := 60) (lb := #[.pointer (some ⟨W.heap.size + 1, 0, none⟩), .pointer (some ⟨W.heap.size + 2, 0, none⟩)]) rfl trivial (enters_of Try.func60 (by kernel_rfl) rfl)
    (chunk_stops W3 (W.heap.size + 1) (W.heap.size + 2) l0.length cap ad hlen hcap (by omega) (by omega) c2 c3)
    (fun h k => ⟨k.1.trans h.1, k.2.trans h.2⟩)
    (fun X q o o' hq h1 h2 _ => ⟨cell_put_other X q o' _ (by simp; omega), cell_put_other X q o' _ (by simp; omega)⟩)
    (Below.refl _ _) (fun _ => rfl)
    (fun pre X => J (pre.map fun x => wordAt l0 x.1) X ∧ W.grownBy X (some So) ∧ W3.heap.size ≤ X.heap.size ∧ X.cell? ⟨W.heap.size, 0, none⟩ = some (.func (.yield l) #[] #[]))
    (fun _ _ _ => False)
    ?own (fun _ _ _ _ _ h _ _ => h) ?start
    (fun x => { tmps := #[.func (.yield l) #[] #[], .pointer (some ⟨Bw, 0, none⟩), .pointer (some ⟨W.heap.size, 0, none⟩), partVal ad l0.length x.1, undef, .slice (some ad) l0.length cap, .func (.func 60) #[] #[.pointer (some ⟨W.heap.size + 1, 0, none⟩), .pointer (some ⟨W.heap.size + 1 + 1, 0, none⟩)], partVal ad l0.length x.1, undef, undef, undef, undef, undef, undef, undef, undef, undef, undef, undef, undef, undef, undef, undef, undef, undef, undef], defers := [] }) ?assign ?body ?done ?stop
  case own =>
    rintro s X Y row ⟨hj, hg, hs, hy⟩ hgr2 hrow
    have hr : ∀ k, row = some k → W3.heap.size ≤ k := fun k e => (hrow k e).1
    have hbl2 : Below W3.heap.size X Y := (Below.refl _ X).grown hgr2 hs hr
    exact ⟨HJ.out _ _ _ hj (hbl2.mono (by omega)), ⟨hbl2.os.trans hg.os, hbl2.tape.trans hg.tape, hbl2.output.trans hg.output, Nat.le_trans hg.size hbl2.size, fun k hk hne => (hbl2.block k (by omega)).trans (hg.block k hk hne)⟩, Nat.le_trans hs hbl2.size, (hbl2.cell (p := ⟨W.heap.size, 0, none⟩) (by simp; omega)).trans hy⟩
  case start => exact ⟨HJ.out _ _ _ h0 (hbl.mono hB0), hgr.weaken_some So, Nat.le_refl _, c1⟩
  case assign =>
    intro l2 x X K hK
    gi_wp2
    exact hK
  case body =>
    rintro l2 pre ⟨i, hi⟩ X ⟨hj, hg, hs, hy⟩ hlen
    have hx0 : X.cell? (ad.add (2 * i)) = some (.int .u8 (l0.getD (2 * i) 0)) := hg.cell (hc _ hi) (by rw [add_block]; simpa using hne)
    have r0 := hb (2 * i)
    have HB := Aside0.mk hb
    by_cases h2 : 2 * i + 1 < l0.length
    · have e2 : partVal ad l0.length i = .slice (some (ad.add (2 * i))) 2 2 := by
        unfold partVal
        rw [show partLen l0.length i = 2 from by unfold partLen; omega]
      have hx1 : X.cell? ⟨(ad.add (2 * i)).block, (ad.add (2 * i)).off + 1, none⟩ = some (.int .u8 (l0.getD (2 * i + 1) 0)) := by
        rw [← add_field _ _ 1 (by omega)]
        exact hg.cell (hc _ h2) (by rw [add_block]; simpa using hne)
      have r1 := hb (2 * i + 1)
      clear hb
      simp only [e2]
      clear e2
      obtain ⟨a, ha⟩ : ∃ a, l0.getD (2 * i) 0 = a := ⟨_, rfl⟩
      obtain ⟨b, hb2⟩ : ∃ b, l0.getD (2 * i + 1) 0 = b := ⟨_, rfl⟩
      rw [ha] at hx0 r0
      rw [hb2] at hx1 r1
      have Ha := Aside0.mk ha
      have Hb := Aside0.mk hb2
      clear ha hb2
      have HJX := Aside0.mk hj
      clear hj
      have hor := Aside0.mk (u16_or8 r0.1 r0.2 r1.1 r1.2)
      obtain ⟨fn, tmps, assign, body, hyy, hR⟩ := yield_any (l2 := l2) (m' := 0) (HY.out _ (bits .or .u16 (a * 256) b) X HJX.out)
      gi_wp2
      refine hR.mono ?_
      rintro e X3 ⟨rfl, hJ3, hk3⟩
      have HJ3 := Aside0.mk hJ3
      clear hJ3
      gi_wp2
      refine ⟨KeepsFrom.of_grownBy hk3 (fun q e => by cases e; omega), ⟨hk3.cell_far _ (by simp; omega) (by simp; omega), hk3.cell_far _ (by simp; omega) (by simp; omega)⟩, ?_, hg.trans hk3, Nat.le_trans hs hk3.size, hk3.cell hy (by simp; omega)⟩
      have h3 := HJ3.out
      rw [hor.out] at h3
      have hw : wordAt l0 i = a * 256 + b := by unfold wordAt; rw [if_pos h2, Ha.out, Hb.out]
      rw [List.map_append]
      show J (_ ++ [wordAt l0 i]) X3
      rw [hw]
      exact h3
    · have e2 : partVal ad l0.length i = .slice (some (ad.add (2 * i))) 1 1 := by
        unfold partVal
        rw [show partLen l0.length i = 1 from by unfold partLen; omega]
      clear hb
      simp only [e2]
      clear e2
      obtain ⟨a, ha⟩ : ∃ a, l0.getD (2 * i) 0 = a := ⟨_, rfl⟩
      rw [ha] at hx0 r0
      have Ha := Aside0.mk ha
      clear ha
      have HJX := Aside0.mk hj
      clear hj
      obtain ⟨fn, tmps, assign, body, hyy, hR⟩ := yield_any (l2 := l2) (m' := 0) (HY.out _ (a * 256) X HJX.out)
      gi_wp2
      refine hR.mono ?_
      rintro e X3 ⟨rfl, hJ3, hk3⟩
      have HJ3 := Aside0.mk hJ3
      clear hJ3
      gi_wp2
      refine ⟨KeepsFrom.of_grownBy hk3 (fun q e => by cases e; omega), ⟨hk3.cell_far _ (by simp; omega) (by simp; omega), hk3.cell_far _ (by simp; omega) (by simp; omega)⟩, ?_, hg.trans hk3, Nat.le_trans hs hk3.size, hk3.cell hy (by simp; omega)⟩
      have h3 := HJ3.out
      have hw : wordAt l0 i = a * 256 := by unfold wordAt; rw [if_neg h2, Ha.out]; omega
      rw [List.map_append]
      show J (_ ++ [wordAt l0 i]) X3
      rw [hw]
      exact h3
  case done =>
    rintro D ys X hD hS ⟨hj, hg, hs, hy⟩ hK
    gi_wp2
    refine ⟨by simp, .inl ⟨_, _, rfl, run_takeDeferred hK, ?_⟩⟩
    have hbl2 : Below W3.heap.size X (X.putObj D (.deferred none)) := belowK_b (w := W3) (Nat.le_refl _) X D _ _ hD hK rfl rfl
    refine ⟨_, results_none rfl _ _ _, ⟨_, rfl⟩, HJ.out _ _ _ ?_ (hbl2.mono (by omega)), ⟨hbl2.os.trans hg.os, hbl2.tape.trans hg.tape, hbl2.output.trans hg.output, Nat.le_trans hg.size hbl2.size, fun k hk hne => (hbl2.block k (by omega)).trans (hg.block k hk hne)⟩⟩
    have e : ys.map (fun x => wordAt l0 x.1) = wordsOf l0 := by
      unfold wordsOf
      rw [← hS, List.map_map]
      rfl
    rw [← e]
    exact hj
  case stop => exact fun _ _ _ _ _ _ h _ => h.elim
end Go.Proofs.Ytafmjhmpnlkeiaa.P

/- A range over a function, under the wide fence: the statement, a round, the end: as plain laws. -/
namespace Go.Proofs.Ytafmjhmpnlkeiaa.P
open Go.RowKit
set_option linter.unusedVariables false
set_option linter.unusedSimpArgs false

theorem one_cell {X : World} {b : Nat} {v : Value} {t : TypeId} (h : X.heap[b]? = some (.cells #[v] t (0, 0))) : X.cell? ⟨b, 0, none⟩ = some v ∧ X.frozen? ⟨b, 0, none⟩ = false := by
  constructor
  · simp [World.cell?, h]
  · simp [World.frozen?, h]
theorem one_set {X : World} {b : Nat} {v : Value} {t : TypeId} (h : X.heap[b]? = some (.cells #[v] t (0, 0))) (u : Value) : (X.setCell ⟨b, 0, none⟩ u).heap[b]? = some (.cells #[u] t (0, 0)) := by
  simp [World.setCell, Array.getElem?_modify, h]
theorem grown_set (X : World) (a : Addr) (u : Value) : X.grownBy (X.setCell a u) (some a.block) := ⟨rfl, rfl, rfl, by simp [World.setCell], fun i _ hne => Below.heap_setCell X a u i (fun e => hne (by rw [e]))⟩
/-- The loop's record. -/
def loopRec (fn : FuncId) (tmps : Array Value) (ps : Array Tmp) (assign body : Code) (D : Nat) (st : LoopState) (pe : Option Code) : Loop := { state := st, pending := pe, fn, tmps, params := ps, assign, body, defers := D }
section
variable {P : Program} {g : Operand} {ps : Array Tmp} {assign body : Code} {Q : Exit → Act → World → Prop} {a : Act} {w : World} {n : Nat}
theorem range_wide {gf : Nat} {lb : Array Value} (hg : a.eval g = .func (.func gf) #[] lb) (eg : ∀ (args : Array Value) (w : World), (callFunc gf args).run P w = .ok (.enter gf args) w) (hn : 1 ≤ n)
    (h : ∀ (fn : FuncId) (W : World), W.heap[w.heap.size + 1]? = some (.loop (loopRec fn a.tmps ps assign body w.heap.size .ready none)) → W.heap[w.heap.size]? = some (.deferred (some [])) → Below w.heap.size w W → W.heap.size = w.heap.size + 2 →
      CallsIn Fence.wide (n - 1) P gf (#[.func (.yield (w.heap.size + 1)) #[] #[]] ++ lb) W (rangePost Fence.wide n P (w.heap.size + 1) Q { a with defers := [{ target := .collected w.heap.size, args := #[] }] ++ a.defers })) :
    (Code.rangeFunc g ps assign body).wpIn Fence.wide n P Q a w := by
  refine wpIn_rangeFunc ?_
  intro fn hfn
  obtain ⟨W, hW⟩ : ∃ W, (w.alloc (.deferred (some []))).alloc (.loop (loopRec fn a.tmps ps assign body w.heap.size .ready none)) = W := ⟨_, rfl⟩
  have hL1 : W.heap[w.heap.size + 1]? = some (.loop (loopRec fn a.tmps ps assign body w.heap.size .ready none)) := by
    rw [← hW]; have := World.alloc_heap_new (w.alloc (.deferred (some []))) (.loop (loopRec fn a.tmps ps assign body w.heap.size .ready none)); rwa [World.size_alloc] at this
  have hK1 : W.heap[w.heap.size]? = some (.deferred (some [])) := by
    rw [← hW]; exact (Below.heap_alloc _ _ _ (by simp)).trans (World.alloc_heap_new w _)
  have hbl : Below w.heap.size w W := by rw [← hW]; exact (((Below.refl _ w).alloc (Nat.le_refl _) _).alloc (by simp) _)
  have hsz : W.heap.size = w.heap.size + 2 := by rw [← hW]; simp
  refine ⟨w.heap.size + 1, [{ target := .collected w.heap.size, args := #[] }], W, { target := .fn (.func gf) lb, args := #[.func (.yield (w.heap.size + 1)) #[] #[]] }, W, gf,
    #[.func (.yield (w.heap.size + 1)) #[] #[]] ++ lb, W, ?_, ?_, ?_, ?_, fun _ => hn, ?_⟩
  · rw [← hW]; exact run_enterLoop_outer _ _ _ _ _
  · simp only [resolve, hg]
    simp [go_sem]
  · intro f' hf'; trivial
  · simp [invoke, go_sem, eg]
  · exact h fn W hL1 hK1 hbl hsz
theorem round_wide {l m D : Nat} {fn : FuncId} {tmps args : Array Value} {X : World} {R : Ending → World → Prop} (hl : X.heap[l]? = some (.loop (loopRec fn tmps ps assign body D .ready none))) (hs : args.size = ps.size)
    (h : assign.wpIn (Fence.wide.inRound l) m P (Exit.then (fun a₁ w₁ => w₁.heap[l]? = some (.loop (loopRec fn tmps ps assign body D .ready none)) ∧ body.wpIn (Fence.wide.inRound l) m P (roundPost P l R) a₁ (w₁.putObj l (.loop (loopRec fn tmps ps assign body D .busy none)))) (fun _ _ _ => False))
      { tmps := (ps.zip args).foldl (fun t (p, v) => t.setIfInBounds p v) tmps, defers := [] } X) :
    YieldAt Fence.wide m P l args X R := by
  have hy := run_yield (P := P) (args := args) hl hs
  refine ⟨fn, _, assign, body, hy, roundIn_of_wpIn trivial (wpIn_mono h ?_)⟩
  intro e a₁ w₁ hp
  cases e with
  | normal => exact ⟨_, run_beginRound hp.1 rfl, hp.2⟩
  | ret => exact hp.elim
  | exit id => exact hp.elim
  | goto t => exact hp.elim
  | panic ch => exact hp.elim
  | outgrown => exact hp.elim
/-- A round that goes on. -/
theorem round_goes {l D : Nat} {fn : FuncId} {tmps : Array Value} {X : World} {R : Ending → World → Prop} {a₁ : Act} (hl : X.heap[l]? = some (.loop (loopRec fn tmps ps assign body D .busy none)))
    (h : R (.returned (.bool true)) (X.putObj l (.loop (loopRec fn tmps ps assign body D .ready none)))) : roundPost P l R .normal a₁ X :=
  ⟨_, _, run_endRound none hl, h⟩
/-- The iterator has returned, all rounds have gone on. -/
theorem range_ends {l D : Nat} {fn : FuncId} {tmps : Array Value} {X : World} {v : Value} {a₁ : Act} (hl : X.heap[l]? = some (.loop (loopRec fn tmps ps assign body D .ready none)))
    (h : Q .normal a₁ (X.putObj l (.loop (loopRec fn tmps ps assign body D .exhausted none)))) : rangePost Fence.wide n P l Q a₁ (.returned v) X :=
  ⟨none, _, run_endLoop hl (by simp [loopRec]), h⟩
/-- What a round is asked for. -/
def RoundLaw (P : Program) (ps : Array Tmp) (assign body : Code) (tmps : Array Value) (l m : Nat) (ready : Loop) : Prop :=
  ∀ (args : Array Value) (X : World) (R : Ending → World → Prop), X.heap[l]? = some (.loop ready) → args.size = ps.size →
    (∀ rb : Loop, (∀ (a : Act) (X3 : World), X3.heap[l]? = some (.loop rb) → (∀ X4, X4.heap[l]? = some (.loop ready) → X3.grownBy X4 (some l) → X4.heap.size = X3.heap.size → R (.returned (.bool true)) X4) → roundPost P l R .normal a X3) →
      assign.wpIn (Fence.wide.inRound l) m P (Exit.then (fun a₁ w₁ => w₁.heap[l]? = some (.loop ready) ∧ ∀ X2, X2.heap[l]? = some (.loop rb) → w₁.grownBy X2 (some l) → X2.heap.size = w₁.heap.size → body.wpIn (Fence.wide.inRound l) m P (roundPost P l R) a₁ X2) (fun _ _ _ => False))
        { tmps := (ps.zip args).foldl (fun t (p, v) => t.setIfInBounds p v) tmps, defers := [] } X) →
    YieldAt Fence.wide m P l args X R
/-- What the statement's end is asked for. -/
def EndLaw (P : Program) (n : Nat) (Q : Exit → Act → World → Prop) (l : Nat) (ready : Loop) : Prop :=
  ∀ (X : World) (v : Value) (a₁ : Act), X.heap[l]? = some (.loop ready) → (∀ X2, X.grownBy X2 (some l) → X2.heap.size = X.heap.size → Q .normal a₁ X2) → rangePost Fence.wide n P l Q a₁ (.returned v) X
theorem put_heap {X : World} {l : Nat} {o : Obj} (o' : Obj) (h : X.heap[l]? = some o) : (X.putObj l o').heap[l]? = some o' ∧ X.grownBy (X.putObj l o') (some l) ∧ (X.putObj l o').heap.size = X.heap.size :=
  ⟨World.putObj_heap_same (Array.getElem?_eq_some_iff.1 h).1, grownBy_putObj' X l o', by simp [World.putObj]⟩
theorem range_law {gf : Nat} {lb : Array Value} (hg : a.eval g = .func (.func gf) #[] lb) (eg : ∀ (args : Array Value) (w : World), (callFunc gf args).run P w = .ok (.enter gf args) w) (hn : 1 ≤ n)
    (h : ∀ (l D : Nat) (ready : Loop) (W : World), l = w.heap.size + 1 → D = w.heap.size → W.heap[l]? = some (.loop ready) → W.heap[D]? = some (.deferred (some [])) → Below w.heap.size w W → W.heap.size = w.heap.size + 2 →
      (∀ m, RoundLaw P ps assign body a.tmps l m ready) → EndLaw P n Q l ready →
      CallsIn Fence.wide (n - 1) P gf (#[.func (.yield l) #[] #[]] ++ lb) W (rangePost Fence.wide n P l Q { a with defers := [{ target := .collected D, args := #[] }] ++ a.defers })) :
    (Code.rangeFunc g ps assign body).wpIn Fence.wide n P Q a w := by
  refine range_wide hg eg hn ?_
  intro fn W hL hK hb hs
  refine h _ _ _ W rfl rfl hL hK hb hs ?_ ?_
  · intro m args X R hl hsz hh
    refine round_wide hl hsz (wpIn_mono (hh (loopRec fn a.tmps ps assign body w.heap.size .busy none) (fun a' X3 h3 h4 => ?_)) ?_)
    · obtain ⟨p1, p2, p3⟩ := put_heap (.loop (loopRec fn a.tmps ps assign body w.heap.size .ready none)) h3
      exact round_goes h3 (h4 _ p1 p2 p3)
    · intro e a₁ w₁ hp
      cases e with
      | normal =>
        obtain ⟨p1, p2, p3⟩ := put_heap (.loop (loopRec fn a.tmps ps assign body w.heap.size .busy none)) hp.1
        exact ⟨hp.1, hp.2 _ p1 p2 p3⟩
      | ret => exact hp.elim
      | exit id => exact hp.elim
      | goto t => exact hp.elim
      | panic ch => exact hp.elim
      | outgrown => exact hp.elim
  · intro X v a₁ hl hh
    obtain ⟨p1, p2, p3⟩ := put_heap (.loop (loopRec fn a.tmps ps assign body w.heap.size .exhausted none)) hl
    exact range_ends hl (hh _ p2 p3)
end
end Go.Proofs.Ytafmjhmpnlkeiaa.P

/- Printed by myprint.py, a program of this session, over the kit's print. -/
namespace Go.Proofs.Ytafmjhmpnlkeiaa.P
open Go.RowKit Go.Proofs.YtafmjhmpnlkeiaaW.PrintWords Go.Proofs.YtafmjhmpnlkeiaaW.PrintLast Go.Proofs.YtafmjhmpnlkeiaaW.PrintMore
attribute [local go_sem] max2_int min2_int max_two min_two max_three min_three max_four min_four   -- for this text's walks alone
set_option linter.unusedVariables false
set_option linter.unusedSimpArgs false

/-! ### sum_Join: function 56 -/
def sum_Join.f (a0 : Int) (a1 : Int) : Option (Int) := some (IntKind.u16.wrap (((Go.bits .and .u32 ((((a0) % 4294967296) + ((a1) % 4294967296)) % 4294967296) 65535) + (((((a0) % 4294967296) + ((a1) % 4294967296)) % 4294967296) / 65536)) % 4294967296))
set_option maxHeartbeats 8000000 in
set_option maxRecDepth 100000 in
theorem sum_Join.calls (a0 : Int) (a1 : Int) (r : Int) (w : World) (h : sum_Join.f a0 a1 = some r) :
    Calls Try.prog 56 #[.int .u16 a0, .int .u16 a1] w fun e w' => e = .returned (.int .u16 r) ∧ Drawn0 w w' := by
  have H : (some (IntKind.u16.wrap (((Go.bits .and .u32 ((((a0) % 4294967296) + ((a1) % 4294967296)) % 4294967296) 65535) + (((((a0) % 4294967296) + ((a1) % 4294967296)) % 4294967296) / 65536)) % 4294967296))) = some r := h
  clear h
  obtain rfl := Option.some.inj H
  go_enter Try.func56, Try.ntmps56
  go_wp2
  go_ret
  exact ⟨by first | rfl | (simp; done) | (simp [*]; done), by repeat (first | exact Drawn0.refl _ | apply Drawn0.step)⟩

end Go.Proofs.Ytafmjhmpnlkeiaa.P

/- sum.Of: the walk. -/
namespace Go.Proofs.Ytafmjhmpnlkeiaa.P
open Go.RowKit Go.Shelf Go.Proofs.YtafmjhmpnlkeiaaW.PrintWords Go.Proofs.YtafmjhmpnlkeiaaW.PrintLast Go.Proofs.YtafmjhmpnlkeiaaW.PrintMore
attribute [local go_sem] Oper.semAt_some
set_option linter.unusedVariables false
set_option linter.unusedSimpArgs false

def joinS (a b : Int) : Int := (sum_Join.f a b).getD 0
def sum16 (ws : List Int) : Int := ws.foldl joinS 0
theorem sum16_snoc (ws : List Int) (x : Int) : sum16 (ws ++ [x]) = joinS (sum16 ws) x := by simp [sum16]
/-- The sum's bits, turned. -/
def turned16 (s : Int) : Int := bits BinOp.xor IntKind.u16 IntKind.u16.max s
/-- What stands between two rounds. -/
def OfInv (w : World) (So l D : Nat) (rec : Loop) (ws : List Int) (W : World) : Prop :=
  W.heap[So]? = some (.cells #[.int .u16 (sum16 ws)] 66 (0, 0)) ∧ W.heap[l]? = some (.loop rec) ∧ W.heap[D]? = some (.deferred (some [])) ∧ Below w.heap.size w W
set_option maxHeartbeats 2000000 in
set_option maxRecDepth 100000 in
theorem of44 (ad : Addr) (c0 : Nat) (l0 : List Int) (w : World) (hr0 : Kd.C (Kd.int .u8) w (some ad) l0.length l0) (hc0 : l0.length ≤ c0) (hcap : l0.length ≤ 140737488355328) (hb : bytesOk l0) (h1 : 0 < l0.length) :
    Calls Try.prog 44 #[.slice (some ad) l0.length c0] w fun e w' => e = .returned (.int .u16 (turned16 (sum16 (wordsOf l0)))) ∧ Below w.heap.size w w' := by
  refine (callsIn_wide (n := 4)).1 ?_
  refine callsIn_of_wp_marks Try.func44 rfl trivial ?_ rfl
  simp only [Try.ntmps44, List.size_toArray, List.length_cons, List.length_nil, Nat.reduceAdd, Nat.reduceSub, Array.replicate_succ, Array.replicate_zero, List.push_toArray, List.append_toArray, List.nil_append, List.cons_append]
  gi_wp2
  refine ⟨trivial, ?_⟩
  refine (callsIn_wide.2 (words55 _ _ _ _)).mono ?_
  rintro e w' ⟨rfl, rfl⟩
  gi_wp2
  obtain ⟨W2, hW2⟩ : ∃ W2, (w.alloc (.cells #[.int .u16 0] 66)).alloc (.cells #[.slice (some ad) l0.length c0] 30) = W2 := ⟨_, rfl⟩
  have hbl : Below w.heap.size w W2 := by rw [← hW2]; exact (((Below.refl _ w).alloc (Nat.le_refl _) _).alloc (by simp) _)
  have hsz : W2.heap.size = w.heap.size + 2 := by rw [← hW2]; simp
  have hs0 : W2.heap[w.heap.size]? = some (.cells #[.int .u16 0] 66 (0, 0)) := by rw [← hW2]; exact (Below.heap_alloc _ _ _ (by simp)).trans (World.alloc_heap_new w _)
  have hb0 : W2.cell? ⟨w.heap.size + 1, 0, none⟩ = some (.slice (some ad) l0.length c0) := by
    rw [← hW2]
    have h := new_cell (w.alloc (.cells #[.int .u16 0] 66)) (.slice (some ad) l0.length c0) 30
    rwa [World.size_alloc] at h
  rw [hW2]
  clear hW2
  refine range_law (gf := 58) (lb := #[.pointer (some ⟨w.heap.size + 1, 0, none⟩)]) rfl (enters_of Try.func58 (by kernel_rfl) rfl) (by omega) ?_
  intro l D ready W4 hl hD hL1 hK1 hbl4 hsz4 hround hend
  have hcw : ∀ j, j < l0.length → W4.cell? (ad.add j) = some (.int .u8 (l0.getD j 0)) := by
    intro j hj
    obtain ⟨ad', e', hc⟩ := Kd.at_int hr0 (j : Int) (by omega) (by omega)
    obtain rfl := Option.some.inj e'
    simp only [Int.toNat_natCast] at hc
    have h2 := (hbl.trans (hbl4.mono (by omega))).cell (World.block_lt_of_cell? w _ hc)
    rw [h2]
    simpa [rd] using hc
  have hadb : ad.block < w.heap.size := by
    obtain ⟨ad', e', hc⟩ := Kd.at_int hr0 (0 : Int) (by omega) (by omega)
    obtain rfl := Option.some.inj e'
    have := World.block_lt_of_cell? w _ hc
    rwa [add_block] at this
  refine (words58 l w.heap.size (l + 1) (w.heap.size + 1) c0 ad l0 hc0 hcap hb (OfInv w w.heap.size l D ready) ?_ ?_ W4 (by omega) (by omega) ((hbl4.cell (p := ⟨w.heap.size + 1, 0, none⟩) (by simp; omega)).trans hb0) (by omega) hcw ⟨(hbl4.block _ (by omega)).trans hs0, hL1, hK1, hbl.trans (hbl4.mono (by omega))⟩).mono ?_
  · rintro s X Y ⟨h1, h2, h3, h4⟩ hXY
    exact ⟨(hXY.block _ (by omega)).trans h1, (hXY.block _ (by omega)).trans h2, (hXY.block _ (by omega)).trans h3, h4.trans (hXY.mono (by omega))⟩
  · have Hl := Aside0.mk (show l = w.heap.size + 3 by omega)
    have HD := Aside0.mk (show D = w.heap.size + 2 by omega)
    clear hsz hsz4 hs0 hb0 hL1 hK1 hcw hr0 hbl hbl4 hl hD hend
    rintro pre x X ⟨g1, g2, g3, g4⟩
    refine hround 1 _ X _ g2 rfl ?_
    intro rb hrb
    have G2 := Aside0.mk g2
    have G1 := Aside0.mk g1
    have Hrb := Aside0.mk hrb
    clear hround g2 g1 hrb
    gi_wp2
    refine ⟨G2.out, ?_⟩
    intro X2 x1 x2 x3
    have y1 : X2.heap[w.heap.size]? = some (.cells #[.int .u16 (sum16 pre)] 66 (0, 0)) := (x2.block _ (Array.getElem?_eq_some_iff.1 G1.out).1 (by have := Hl.out; simp; omega)).trans G1.out
    obtain ⟨c1, f1⟩ := one_cell y1
    have Y1 := Aside0.mk y1
    have X1 := Aside0.mk x1
    have Q2 := Aside0.mk x2
    clear x1 x2 x3 y1
    gi_wp2
    refine ⟨trivial, ?_⟩
    refine (CallsIn.inRound l (callsIn_wide.2 (sum_Join.calls (sum16 pre) x (joinS (sum16 pre) x) _ rfl))).mono ?_
    rintro e w1 ⟨rfl, ⟨q, rfl⟩⟩
    gi_wp2
    refine Hrb.out _ _ ?_ ?_
    · exact (Below.heap_setCell _ _ _ _ (by have := Hl.out; simp; omega)).trans X1.out
    · intro X4 k1 k2 k3
      have hg : X.grownBy X4 (some w.heap.size) := by
        have a1 := Q2.out
        have a2 : X2.grownBy ((X2.setCell ⟨w.heap.size, 0, none⟩ (.int .u16 (joinS (sum16 pre) x))).drewN q) (some w.heap.size) := World.grownBy.trans (grown_set X2 ⟨w.heap.size, 0, none⟩ _) ((grown_of_below (pw_below_drewN (Below.refl _ _) q) none).weaken_some _)
        refine ⟨k2.os.trans (a2.os.trans a1.os), k2.tape.trans (a2.tape.trans a1.tape), k2.output.trans (a2.output.trans a1.output), Nat.le_trans a1.size (Nat.le_trans a2.size k2.size), fun i hi hne => ?_⟩
        by_cases e : i = l
        · subst e
          exact k1.trans G2.out.symm
        · exact (k2.block i (Nat.lt_of_lt_of_le hi (Nat.le_trans a1.size a2.size)) (by simpa using e)).trans ((a2.block i (Nat.lt_of_lt_of_le hi a1.size) hne).trans (a1.block i hi (by simpa using e)))
      refine ⟨by first | rfl | trivial, ⟨?_, k1, ?_, ?_⟩, hg⟩
      · refine (k2.block _ ?_ (by have := Hl.out; simp; omega)).trans ?_
        · have := (Array.getElem?_eq_some_iff.1 (one_set Y1.out (.int .u16 (joinS (sum16 pre) x)))).1
          exact this
        · rw [sum16_snoc]
          exact one_set Y1.out _
      · exact (hg.block _ (Array.getElem?_eq_some_iff.1 g3).1 (by have := HD.out; simp; omega)).trans g3
      · exact g4.grown hg (by have := (Array.getElem?_eq_some_iff.1 g3).1; have := HD.out; omega) (fun k e => by cases e; omega)
  · rintro e X ⟨⟨v, rfl⟩, ⟨h1, h2, h3, h4⟩, hg⟩
    refine hend X v _ h2 ?_
    intro X2 x2 x3
    have y1 : X2.heap[w.heap.size]? = some (.cells #[.int .u16 (sum16 (wordsOf l0))] 66 (0, 0)) := (x2.block _ (Array.getElem?_eq_some_iff.1 h1).1 (by simp; omega)).trans h1
    obtain ⟨c1, f1⟩ := one_cell y1
    have hD2 : X2.heap[D]? = some (.deferred (some [])) := (x2.block _ (Array.getElem?_eq_some_iff.1 h3).1 (by simp; omega)).trans h3
    have hB2 : Below w.heap.size w X2 := h4.grown x2 h4.size (fun k e => by cases e; omega)
    have HD2 := Aside0.mk hD2
    have HB2 := Aside0.mk hB2
    have Hd := Aside0.mk (show w.heap.size ≤ D by omega)
    clear hsz hsz4 hs0 hb0 hL1 hK1 hcw hr0 hbl hbl4 hl hD hend hround h1 h2 h3 h4 x2 x3 y1 hg hD2 hB2
    gi_wp2
    refine ⟨by simp, .inl ⟨_, _, rfl, run_takeDeferred HD2.out, ?_⟩⟩
    exact ⟨_, results_tmp rfl _ _ _, rfl, HB2.out.grown (grownBy_putObj' X2 D _) (by have := HB2.out.size; omega) (fun k e => by cases e; exact Hd.out)⟩
def okBytes (l : List Int) : Bool := l.all fun x => decide (0 ≤ x) && decide (x ≤ 255)
theorem bytesOk_of {l : List Int} (h : okBytes l = true) : bytesOk l := by
  intro j
  unfold okBytes at h
  rw [List.all_eq_true] at h
  by_cases hj : j < l.length
  · have := h l[j] (List.getElem_mem hj)
    simp [List.getD_eq_getElem?_getD, hj] at this ⊢
    omega
  · simp [List.getD_eq_getElem?_getD, List.getElem?_eq_none (show l.length ≤ j by omega)]
/-- The sum of bytes that are bytes; not of none. -/
def sum_Of.f (l0 : List Int) : Option (Int) := if okBytes l0 = true ∧ 0 < l0.length ∧ l0.length ≤ 140737488355328 then some (turned16 (sum16 (wordsOf l0))) else none
theorem sum_Of.calls (A0 : Option Addr) (c0 : Nat) (l0 : List Int) (r : Int) (w : World) (hr0 : Kd.C (Kd.int .u8) w A0 l0.length l0) (hc0 : l0.length ≤ c0) (h : sum_Of.f l0 = some r) :
    Calls Try.prog 44 #[.slice A0 l0.length c0] w fun e w' => e = .returned (.int .u16 r) ∧ Below w.heap.size w w' := by
  unfold sum_Of.f at h
  by_cases hc : okBytes l0 = true ∧ 0 < l0.length ∧ l0.length ≤ 140737488355328
  · rw [if_pos hc] at h
    obtain rfl := Option.some.inj h
    obtain ⟨ad, rfl⟩ : ∃ ad, A0 = some ad := by
      obtain ⟨ad, e, _⟩ := Kd.at_int hr0 (0 : Int) (by omega) (by omega)
      exact ⟨ad, e⟩
    exact of44 ad c0 l0 w hr0 hc0 hc.2.2 (bytesOk_of hc.1) hc.2.1
  · rw [if_neg hc] at h
    cases h
end Go.Proofs.Ytafmjhmpnlkeiaa.P

/- Printed by myprint.py, a program of this session, over the kit's print. -/
namespace Go.Proofs.Ytafmjhmpnlkeiaa.P
open Go.RowKit Go.Proofs.YtafmjhmpnlkeiaaW.PrintWords Go.Proofs.YtafmjhmpnlkeiaaW.PrintLast Go.Proofs.YtafmjhmpnlkeiaaW.PrintMore
attribute [local go_sem] max2_int min2_int max_two min_two max_three min_three max_four min_four   -- for this text's walks alone
set_option linter.unusedVariables false
set_option linter.unusedSimpArgs false

/-! ### addr_part: function 43 -/
def addr_part.f (a0 : Int) (a1 : Int) : Option (Int) := if 0 ≤ (wrap64 (24 - (wrap64 (8 * a1)))) then (some ((shr .u32 a0 (wrap64 (24 - (wrap64 (8 * a1))))) % 256)) else (none)
set_option maxHeartbeats 8000000 in
set_option maxRecDepth 100000 in
theorem addr_part.calls (a0 : Int) (a1 : Int) (r : Int) (w : World) (h : addr_part.f a0 a1 = some r) :
    Calls Try.prog 43 #[.int .u32 a0, .int .i64 a1] w fun e w' => e = .returned (.int .u8 r) ∧ Drawn0 w w' := by
  have H : (if 0 ≤ (wrap64 (24 - (wrap64 (8 * a1)))) then (some ((shr .u32 a0 (wrap64 (24 - (wrap64 (8 * a1))))) % 256)) else (none)) = some r := h
  clear h
  obtain ⟨ji3, hji3⟩ : ∃ j_ : Int, (wrap64 (24 - (wrap64 (8 * a1)))) = j_ := ⟨_, rfl⟩
  replace H : (if 0 ≤ (ji3) then (some ((shr .u32 a0 (ji3)) % 256)) else (none)) = some r := by first | (rw [hji3] at H; exact H) | (simp only [hji3] at H ⊢; exact H)
  have hji3w : (IntKind.i64.wrap (24 - (wrap64 (8 * a1)))) = ji3 := (i64_w _).trans hji3
  by_cases c4 : 0 ≤ (ji3)
  · rw [if_pos c4] at H
    have c4b0 := eq_true c4
    have c4b1 : decide (0 ≤ (ji3)) = true := decide_eq_true c4
    clear c4
    obtain ⟨ji5, hji5⟩ : ∃ j_ : Int, (shr .u32 a0 (ji3)) = j_ := ⟨_, rfl⟩
    replace H : (some ((ji5) % 256)) = some r := by first | (rw [hji5] at H; exact H) | (simp only [hji5] at H ⊢; exact H)
    have hji5_ : (a0 / 2 ^ min (ji3).toNat 32) = ji5 := hji5
    have hji5z : (ji3) ≤ 32 → (a0 / 2 ^ (ji3).toNat) = ji5 := shr_small hji5
    obtain rfl := Option.some.inj H
    go_enter Try.func43, Try.ntmps43
    go_wp2
    go_ret
    exact ⟨by first | rfl | (simp; done) | (simp only [← hji3, ← hji5] <;> (first | rfl | simp)) | (simp [*]; done), by repeat (first | exact Drawn0.refl _ | apply Drawn0.step)⟩
  · rw [if_neg c4] at H
    exact absurd H (by simp)

end Go.Proofs.Ytafmjhmpnlkeiaa.P

/- Printed by myprint.py, a program of this session, over the kit's print. -/
namespace Go.Proofs.Ytafmjhmpnlkeiaa.P
open Go.RowKit Go.Proofs.YtafmjhmpnlkeiaaW.PrintWords Go.Proofs.YtafmjhmpnlkeiaaW.PrintLast Go.Proofs.YtafmjhmpnlkeiaaW.PrintMore
attribute [local go_sem] max2_int min2_int max_two min_two max_three min_three max_four min_four   -- for this text's walks alone
set_option linter.unusedVariables false
set_option linter.unusedSimpArgs false

/-! ### addr_Bytes: function 18 -/
def addr_Bytes.l0 : Nat → Int → List Int → Int → Int → Option (List Int)
  | 0, _, _, _, _ => none
  | k + 1, x0, x3, x7, x8 => if x8 < x7 then ((addr_part.f x0 x8).bind fun t115 => (if 0 ≤ x8 then (if x8 < (x3.length : Int) then (addr_Bytes.l0 k x0 (x3.set (x8 : Int).toNat t115) x7 (wrap64 (x8 + 1))) else (none)) else (none))) else (some x3)
def addr_Bytes.f (k : Nat) (a0 : Int) : Option (List Int) := if 4 ≤ 281474976710656 then ((some (List.replicate 4 0 : List Int)).bind fun y112 => (addr_Bytes.l0 k a0 y112 (y112.length : Int) 0)) else (none)
theorem addr_Bytes.mono_l : ∀ k, (∀ y0 y1 y2 y3, LeO (addr_Bytes.l0 k y0 y1 y2 y3) (addr_Bytes.l0 (k + 1) y0 y1 y2 y3))
  | 0 => fun _ _ _ _ r h => by simp [addr_Bytes.l0] at h
  | k + 1 => by
    have ih0 := addr_Bytes.mono_l k
    · intro y0 y1 y2 y3
      unfold addr_Bytes.l0
      repeat' first
      | (with_reducible exact ih0 _ _ _ _)
      | (with_reducible exact LeO.refl _)
      | (with_reducible exact LeO.none _)
      | (with_reducible refine LeO.ite ?_ ?_)
      | (with_reducible refine LeO.bind ?_ (fun _ => ?_))
      | exact ih0 _ _ _ _
      | exact LeO.none _
      | refine LeO.ite ?_ ?_
      | refine LeO.bind ?_ (fun _ => ?_)
theorem addr_Bytes.mono : ∀ a0 k, LeO (addr_Bytes.f k a0) (addr_Bytes.f (k + 1) a0) := by
  intro a0 k
  have ih0 := addr_Bytes.mono_l k
  unfold addr_Bytes.f
  repeat' first
      | (with_reducible exact ih0 _ _ _ _)
      | (with_reducible exact LeO.refl _)
      | (with_reducible exact LeO.none _)
      | (with_reducible refine LeO.ite ?_ ?_)
      | (with_reducible refine LeO.bind ?_ (fun _ => ?_))
      | exact ih0 _ _ _ _
      | exact LeO.none _
      | refine LeO.ite ?_ ?_
      | refine LeO.bind ?_ (fun _ => ?_)
set_option maxHeartbeats 8000000 in
set_option maxRecDepth 100000 in
theorem addr_Bytes.calls (k : Nat) (a0 : Int) (r : List Int) (w : World) (h : addr_Bytes.f k a0 = some r) :
    Calls Try.prog 18 #[.int .u32 a0] w fun e w' => ∃ v0_ : Value, e = .returned (v0_) ∧ Kd.R (Kd.int .u8) 5 w' w.heap.size (fun _ => True) v0_ r ∧ Below w.heap.size w w' := by
  have HB := Aside0.mk (Below.refl w.heap.size w)
  have H : (if 4 ≤ 281474976710656 then ((some (List.replicate 4 0 : List Int)).bind fun y112 => (addr_Bytes.l0 k a0 y112 (y112.length : Int) 0)) else (none)) = some r := h
  clear h
  by_cases c2 : 4 ≤ 281474976710656
  · rw [if_pos c2] at H
    have c2b0 := eq_true c2
    have c2b1 : decide (4 ≤ 281474976710656) = true := decide_eq_true c2
    clear c2
    obtain ⟨y112, hy112⟩ : ∃ y_ : List Int, y_ = (List.replicate 4 0) := ⟨_, rfl⟩
    replace H : (addr_Bytes.l0 k a0 y112 (y112.length : Int) 0) = some r := by first | (rw [hy112]; with_reducible exact H) | (have H2_ := (Option.bind_some _ _).symm.trans H; rw [hy112]; with_reducible exact H2_) | (have H2_ := (Option.bind_some _ _).symm.trans H; with_reducible exact H2_) | with_reducible exact H | (rw [hy112]; exact H) | exact H
    have Ny112 := Aside0.mk hy112
    clear hy112
    have H' := Aside0.mk H
    clear H
    go_enter Try.func18, Try.ntmps18
    go_wp2_with (first | ((with_reducible refine gate_dst (N := 5) rfl ?_); refine Kd.R_make (Kd.int .u8) _ 5 rfl (N := 5) rfl 30 _ _ rfl 4 rfl rfl Try.underlying30 (.int .u8 0) 1 info5 rfl (by decide) (by omega) 0 (ok := fun _ => True) (okp := fun _ => True) rfl (fun _ hk => hk) trivial (by omega) (by omega) (Below.refl _ _) (Nat.le_refl _) ?_; intro v113 w3 ho4 hb hg_ hnew_; clear hg_ hnew_; (first | rw [← Ny112.out] at ho4 | (simp only [Int.reduceToNat] at ho4; rw [← Ny112.out] at ho4)); have n0_ := Aside0.mk (Kd.R_lower ho4 (below_size (by repeat (first | (with_reducible first | exact HB.out | apply below_alloc | apply pw_below_drewN | apply below_drew1) | exact HB.out)))); have n1_ := Aside0.mk (below_step (by repeat (first | (with_reducible first | exact HB.out | apply below_alloc | apply pw_below_drewN | apply below_drew1) | exact HB.out)) hb); clear HB; have HO114 := n0_; have HB := n1_; clear n0_ n1_; clear hb ho4; obtain ⟨Ao5, co5, eo5⟩ := Kd.R_slice HO114.out; subst eo5))
    go_loopg [8] k (fun kq v8 w' => ∃ (x3_1 : List Int) (x8_1 : Int), v8 = .int .i64 x8_1 ∧ Aside0 (addr_Bytes.l0 kq a0 x3_1 (y112.length : Int) x8_1 = some r) ∧ Aside0 (kq ≤ k) ∧ Aside0 (Kd.R (Kd.int .u8) 5 w' w.heap.size (fun _ => True) (.slice Ao5 y112.length co5) x3_1) ∧ Aside0 (Below w.heap.size w w'))
    case atStart => exact ⟨(y112), (0), (by first | rfl | (simp; done) | (simp [*]; done)), H', ⟨Nat.le_refl _⟩, ⟨by (with_reducible repeat (first | apply Kd.R_alloc | apply Kd.R_drewN | apply Kd.R_drew)); exact HO114.out⟩, ⟨by repeat (first | (with_reducible first | exact HB.out | apply below_alloc | apply pw_below_drewN | apply below_drew1) | exact HB.out)⟩⟩
    case round =>
      clear H'
      try clear c1
      try clear c2
      try clear c2b0
      try clear c2b1
      try clear p2
      obtain ⟨x3_1, x8_1, rfl, HA, HK1, HO_3, HB⟩ := hrel
      have hl3_1 := (Kd.R_reads' HO_3.out).1
      rw [hl3_1] at HO_3
      (try simp only [hl3_1])
      cases gk with
      | zero => exact absurd HA.out (by simp [addr_Bytes.l0])
      | succ k1 =>
        have H := HA.out
        clear HA
        simp only [addr_Bytes.l0] at H
        by_cases c6 : x8_1 < (y112.length : Int)
        · rw [if_pos c6] at H
          have c6b0 : decide (x8_1 < (y112.length : Int)) = true := decide_eq_true c6
          clear c6
          replace H := Option.bind_eq_some_iff.mp H
          obtain ⟨t115, A70, H⟩ := H
          replace H : (if 0 ≤ x8_1 then (if x8_1 < (x3_1.length : Int) then (addr_Bytes.l0 k1 a0 (x3_1.set (x8_1 : Int).toNat t115) (y112.length : Int) (wrap64 (x8_1 + 1))) else (none)) else (none)) = some r := H
          have A7 := Aside0.mk A70
          clear A70
          by_cases c8 : 0 ≤ x8_1
          · rw [if_pos c8] at H
            have c8b0 : decide (0 ≤ x8_1) = true := decide_eq_true c8
            clear c8
            by_cases c9 : x8_1 < (x3_1.length : Int)
            · rw [if_pos c9] at H
              have c9b0 : decide (x8_1 < (x3_1.length : Int)) = true := decide_eq_true c9
              clear c9
              obtain ⟨y116, hy116⟩ : ∃ y_ : List Int, y_ = (x3_1.set (x8_1 : Int).toNat t115) := ⟨_, rfl⟩
              replace H : (addr_Bytes.l0 k1 a0 y116 (y112.length : Int) (wrap64 (x8_1 + 1))) = some r := by first | (rw [hy116]; with_reducible exact H) | (have H2_ := (Option.bind_some _ _).symm.trans H; rw [hy116]; with_reducible exact H2_) | (have H2_ := (Option.bind_some _ _).symm.trans H; with_reducible exact H2_) | with_reducible exact H | (rw [hy116]; exact H) | exact H
              have Ny116 := Aside0.mk hy116
              clear hy116
              have H' := Aside0.mk H
              clear H
              go_wp2_with (first | ((with_reducible refine gate_callee (f := 43) rfl ?_); refine goesL_ (some 15) rfl rfl Try.func43 (by kernel_rfl) rfl #[.int .u32 a0, .int .i64 x8_1] rfl (by (try simp only [List.map_toArray, List.map_cons, List.map_nil]); first | done | rfl | (simp only [List.length_drop, List.length_take]; rfl)) ?_; (with_reducible refine (addr_part.calls a0 x8_1 t115 _ A7.out).mono ?_); rintro e w' ⟨rfl, ⟨nd, rfl⟩⟩; refine ⟨_, rfl, ?_⟩; (try (rw [drewN_self wr]; generalize hq_ : World.drewN wr _ = wr; have n0_ : Aside0 (Kd.R (Kd.int .u8) 5 wr w.heap.size (fun _ => True) (.slice Ao5 x3_1.length co5) x3_1) := ⟨by rw [← hq_]; exact (by (with_reducible repeat (first | apply Kd.R_alloc | apply Kd.R_drewN | apply Kd.R_drew)); exact HO_3.out)⟩; have n1_ : Aside0 (Below w.heap.size w wr) := ⟨by rw [← hq_]; exact (by repeat (first | (with_reducible first | exact HB.out | apply below_alloc | apply pw_below_drewN | apply below_drew1) | exact HB.out))⟩; clear HO_3 HB hq_; have HO_3 := n0_; have HB := n1_; clear n0_ n1_)); have p10 : 0 ≤ (x8_1 : Int) := of_decide_eq_true (by first | (with_reducible assumption) | assumption); have q10 : (x8_1 : Int) < ((x3_1.length : Int) : Int) := of_decide_eq_true (by first | (with_reducible assumption) | assumption); obtain ⟨go10, co10, eo10, gb10, gl10, cl10, HG10⟩ := Kd.R_form HO_3.out (by omega); (first | cases eo10 | (injection eo10 with ea_ en_ ec_; (first | subst ea_ | (injection ea_ with ea_; subst ea_)); subst ec_; clear en_)); have GB10 := Aside0.mk gb10; have GG10 := Aside0.mk HG10; clear gb10 gl10 HG10; obtain ⟨hx10_0, hf10_0⟩ := Kd.R_celln 0 HO_3.out (x8_1 : Int) p10 q10; replace p10 := eq_true p10; replace q10 := eq_true q10; obtain ⟨hy11_, hz11_⟩ := Kd.R_celln 0 HO_3.out (x8_1 : Int) (of_decide_eq_true (by first | (with_reducible assumption) | assumption)) (of_decide_eq_true (by first | (with_reducible assumption) | assumption)); have HP11 := Kd.R_putg HO_3.out (x8_1 : Int) t115) | ((with_reducible refine gate_store (t := 5) (p := 16) rfl ?_); refine store_event (t := 5) (p := 16) (v := ?vo_w12) (w1 := (wr.setCell ⟨go10, (x8_1 : Int).toNat, none⟩ (.int .u8 t115))) ?hg ?ho ?hn ?hr ?_; (case ho => rfl); (case hg => rfl); (case hn => rfl); (case hr => first | (go_simp; done) | (go_simp; rfl)); intro w12 hw; have hg : wr.grownBy w12 (some go10) := (by rw [hw]; exact HP11.2); have hp_ : Kd.R (Kd.int .u8) 5 w12 w.heap.size (fun _ => True) (.slice (some ⟨go10, 0, none⟩) x3_1.length co5) y116 := (by rw [hw, Ny116.out]; exact HP11.1); clear HP11; have n0_ := Aside0.mk (hp_); have n1_ := Aside0.mk ((by rw [hw]; exact below_set (HB.out) GB10.out : Below w.heap.size w w12)); clear HO_3; clear HB; have HO_3 := n0_; have HB := n1_; clear n0_ n1_; clear hg hw hp_))
              (try simp only [← hl3_1])
              go_roundg k1
              case measure => have := HK1.out; omega
              case rel => exact ⟨(y116), (wrap64 (x8_1 + 1)), (by first | rfl | (simp; done) | (simp [*]; done)), H', ⟨by have := HK1.out; omega⟩, ⟨by (try simp only [hl3_1]); (with_reducible repeat (first | apply Kd.R_alloc | apply Kd.R_drewN | apply Kd.R_drew)); exact HO_3.out⟩, ⟨by repeat (first | (with_reducible first | exact HB.out | apply below_alloc | apply pw_below_drewN | apply below_drew1) | exact HB.out)⟩⟩
            · rw [if_neg c9] at H
              exact absurd H (by simp)
          · rw [if_neg c8] at H
            exact absurd H (by simp)
        · rw [if_neg c6] at H
          have c6b0 : decide (x8_1 < (y112.length : Int)) = false := decide_eq_false c6
          have c6b1 : decide (x8_1 < (x3_1.length : Int)) = false := by first | (rw [hl3_1] at c6b0; exact c6b0) | (rw [← hl3_1] at c6b0; exact c6b0) | exact c6b0
          clear c6
          obtain rfl := Option.some.inj H
          go_wp2
          go_ret
          exact ⟨_, by first | rfl | (simp [errW_none, errW_some] <;> rfl) | (simp [*, errW_none, errW_some] <;> rfl), by (with_reducible repeat (first | apply Kd.R_alloc | apply Kd.R_drewN | apply Kd.R_drew)); exact HO_3.out, by repeat (first | (with_reducible first | exact HB.out | apply below_alloc | apply pw_below_drewN | apply below_drew1) | exact HB.out)⟩
  · rw [if_neg c2] at H
    exact absurd H (by simp)

end Go.Proofs.Ytafmjhmpnlkeiaa.P

/- The writer: lay, addrs. -/
namespace Go.Proofs.Ytafmjhmpnlkeiaa.P
open Go.RowKit Go.Proofs.YtafmjhmpnlkeiaaW.PrintWords Go.Proofs.YtafmjhmpnlkeiaaW.PrintLast Go.Proofs.YtafmjhmpnlkeiaaW.PrintMore
set_option linter.unusedVariables false
set_option linter.unusedSimpArgs false

/-- A row of bytes in a block that has just been made. -/
theorem C_new8 (W : World) (l : List Int) (hl : l.length ≤ 140737488355328) : Kd.C (Kd.int .u8) (W.alloc (.cells (l.map (Value.int .u8)).toArray 5)) (some ⟨W.heap.size, 0, none⟩) l.length l := by
  refine ⟨rfl, by omega, fun _ => ⟨_, rfl, fun j p hj => ⟨[.int .u8 p], rfl, rfl, fun i u hi => ?_⟩⟩⟩
  have hjl : j < l.length := (List.getElem?_eq_some_iff.1 hj).1
  obtain rfl : i = 0 := by
    have := (List.getElem?_eq_some_iff.1 hi).1
    simpa using this
  obtain rfl : Value.int .u8 p = u := by simpa using hi
  rw [add_plain, World.cell?_alloc_at _ _ _ _ rfl]
  show ((l.map (Value.int .u8)).toArray)[j * 1 + 0]? = _
  rw [Nat.mul_one, Nat.add_zero]
  simp [hj]
/-- A writer at block g, made since w0: it has laid xs, in a block of S's. -/
def Wr (w0 W : World) (g : Nat) (S : Nat → Prop) (xs : List Int) : Prop :=
  ∃ v, W.heap[g]? = some (.cells #[v] 47 (0, 0)) ∧ Kd.R (Kd.int .u8) 5 W w0.heap.size S v xs ∧ w0.heap.size ≤ g ∧ Below w0.heap.size w0 W
theorem Wr.below {w0 W W' : World} {g : Nat} {S : Nat → Prop} {xs : List Int} (h : Wr w0 W g S xs) (hb : Below W.heap.size W W') : Wr w0 W' g S xs := by
  obtain ⟨v, h1, h2, h3, h4⟩ := h
  exact ⟨v, (hb.block _ (Array.getElem?_eq_some_iff.1 h1).1).trans h1, Kd.R_below h2 hb, h3, h4.trans (hb.mono h4.size)⟩
theorem Wr.mono {w0 W : World} {g : Nat} {S S' : Nat → Prop} {xs : List Int} (h : Wr w0 W g S xs) (hs : ∀ k, S k → S' k) : Wr w0 W g S' xs := by
  obtain ⟨v, h1, h2, h3, h4⟩ := h
  exact ⟨v, h1, Kd.R_mono h2 hs, h3, h4⟩
theorem Wr.bound {w0 W : World} {g : Nat} {S : Nat → Prop} {xs : List Int} (h : Wr w0 W g S xs) : Wr w0 W g (fun k => k < W.heap.size ∧ k ≠ g) xs := by
  obtain ⟨v, h1, h2, h3, h4⟩ := h
  refine ⟨v, h1, Kd.R_mono (Kd.R_types (Kd.R_bound h2) h1 (by decide)) (fun k hk => ⟨hk.1.2.2.1, hk.2⟩), h3, h4⟩
theorem Wr.w0 {w0 W : World} {g : Nat} {S : Nat → Prop} {xs : List Int} (h : Wr w0 W g S xs) : Below w0.heap.size w0 W := by
  obtain ⟨v, h1, h2, h3, h4⟩ := h
  exact h4
theorem Wr.lt {w0 W : World} {g : Nat} {S : Nat → Prop} {xs : List Int} (h : Wr w0 W g S xs) : g < W.heap.size := by
  obtain ⟨v, h1, h2, h3, h4⟩ := h
  exact (Array.getElem?_eq_some_iff.1 h1).1
set_option maxHeartbeats 1000000 in
set_option maxRecDepth 100000 in
theorem lay16 (w0 w : World) (g : Nat) (S : Nat → Prop) (xs : List Int) (A : Option Addr) (c : Nat) (l : List Int) (hW : Wr w0 w g S xs) (hr : Kd.C (Kd.int .u8) w A l.length l) (hlim : xs.length + l.length ≤ 140737488355328) :
    Calls Try.prog 16 #[.pointer (some ⟨g, 0, none⟩), .slice A l.length c] w fun e w' => e = .returned (.tuple #[]) ∧ Wr w0 w' g (fun k => S k ∨ w.heap.size ≤ k) (xs ++ l) ∧ Kept w w' (fun k => S k ∨ k = g) := by
  obtain ⟨v, h1, h2, h3, h4⟩ := hW
  obtain ⟨A0, c0, rfl⟩ := Kd.R_slice h2
  obtain ⟨k1, k2⟩ := one_cell h1
  have H1 := Aside0.mk h1
  have H2 := Aside0.mk h2
  have H4 := Aside0.mk h4
  have HR := Aside0.mk hr
  clear h1 h2 h4 hr
  go_enter Try.func16, Try.ntmps16
  go_wp2_with (at_builtin; refine Kd.R_append_rows (Kd.int .u8) w0.heap.size rfl (.tmp 8) (.tmp 9) 30 5 (.int .u8 0) 1 rfl Try.underlying30 info5 rfl (by decide) (by decide) (.slice A0 xs.length c0) xs l A l.length c (fun k => S k ∨ w.heap.size ≤ k) (fun _ => False) rfl rfl (Kd.R_mono H2.out (fun _ h => .inl h)) HR.out (fun _ _ h => h) (fun _ h => h.elim) (fun _ h => .inr h) H4.out H4.out.size (by omega) ?_; intro v1 w1 r1 b1 g1 _; obtain ⟨A1, c1, rfl⟩ := Kd.R_slice r1; rw [List.length_append] at r1; have hne := Kd.R_ne H2.out H1.out (by decide); have n1 := (g1.block _ (Array.getElem?_eq_some_iff.1 H1.out).1 hne).trans H1.out; have G1 := Aside0.mk g1; have R1 := Aside0.mk r1; have B1 := Aside0.mk b1; have N1 := Aside0.mk n1; obtain ⟨m1, m2⟩ := one_cell n1; clear r1 b1 g1 n1 hne)
  go_end0
  refine ⟨rfl, ⟨_, one_set N1.out _, Kd.R_set R1.out N1.out (by decide) 0 _, h3, B1.out.setCell (p := ⟨g, 0, none⟩) h3 _⟩, ?_⟩
  exact Kept.setCell (Kept.of_grown G1.out (Kept.refl _ _) (fun k e => .inl (.inl (H2.out.1 k e)))) (p := ⟨g, 0, none⟩) (.inl (.inr rfl)) _
/-- An address's four bytes. -/
def addrBytes (a : Int) : List Int := (addr_Bytes.f 5 a).getD []
theorem part_some (a : Int) (i : Nat) (hi : i < 4) : ∃ r, addr_part.f a (i : Int) = some r := by
  unfold addr_part.f
  rw [if_pos (by unfold wrap64; omega)]
  exact ⟨_, rfl⟩
theorem bytes_l0 (a : Int) (d : Nat) : ∀ (k x : Nat) (l : List Int), 4 - x = d → x ≤ 4 → d < k → l.length = 4 → ∃ r, addr_Bytes.l0 k a l 4 (x : Int) = some r ∧ r.length = 4 := by
  induction d with
  | zero =>
    intro k x l hd hx hk hl
    obtain ⟨k, rfl⟩ : ∃ m, k = m + 1 := ⟨k - 1, by omega⟩
    exact ⟨l, by simp only [addr_Bytes.l0]; rw [if_neg (by omega)], hl⟩
  | succ d ih =>
    intro k x l hd hx hk hl
    obtain ⟨k, rfl⟩ : ∃ m, k = m + 1 := ⟨k - 1, by omega⟩
    obtain ⟨p, hp⟩ := part_some a x (by omega)
    simp only [addr_Bytes.l0]
    rw [if_pos (by omega), hp]
    simp only [Option.bind_some]
    rw [if_pos (by omega), if_pos (by omega), wrap_succ x 4 (by omega) (by omega)]
    exact ih k (x + 1) _ (by omega) (by omega) (by omega) (by rw [List.length_set]; exact hl)
theorem bytes_ex (a : Int) : ∃ r, addr_Bytes.f 5 a = some r ∧ r.length = 4 := by
  unfold addr_Bytes.f
  rw [if_pos (by omega)]
  simp only [Option.bind_some]
  exact bytes_l0 a 4 5 0 _ (by omega) (by omega) (by omega) (by simp)
theorem addrBytes_f (a : Int) : addr_Bytes.f 5 a = some (addrBytes a) := by
  obtain ⟨r, h, _⟩ := bytes_ex a
  unfold addrBytes
  rw [h]
  rfl
theorem addrBytes_length (a : Int) : (addrBytes a).length = 4 := by
  obtain ⟨r, h, hl⟩ := bytes_ex a
  unfold addrBytes
  rw [h]
  exact hl
def layAddrs (l : List Int) : List Int := l.flatMap addrBytes
theorem layAddrs_length (l : List Int) : (layAddrs l).length = 4 * l.length := by
  induction l with
  | nil => rfl
  | cons a l ih =>
    show (addrBytes a ++ layAddrs l).length = _
    rw [List.length_append, ih, addrBytes_length, List.length_cons]
    omega
theorem layAddrs_take (l : List Int) (x : Nat) (h : x < l.length) : layAddrs (l.take (x + 1)) = layAddrs (l.take x) ++ addrBytes l[x] := by
  unfold layAddrs
  rw [List.take_succ_eq_append_getElem h, List.flatMap_append]
  simp
def lenBytes (l : List Int) : List Int := [(l.length : Int) / 256 % 256, (l.length : Int) % 256]
set_option maxHeartbeats 2000000 in
set_option maxRecDepth 100000 in
theorem addrs17 (w0 w : World) (g : Nat) (S : Nat → Prop) (xs : List Int) (A : Option Addr) (c : Nat) (gr : List Int) (B : Option Addr) (d : Nat) (l : List Int) (hW : Wr w0 w g S xs) (hS : ∀ k, S k → k < w.heap.size) (hg : ∀ W', Kept w W' (fun k => S k ∨ k = g) → Kd.C (Kd.int .u8) W' A gr.length gr) (hgr : gr.length ≤ 4)
    (hl : Kd.C (Kd.int .u32) w0 B l.length l) (hlim : xs.length + 4 * l.length + 6 ≤ 140737488355328) :
    Calls Try.prog 17 #[.pointer (some ⟨g, 0, none⟩), .slice A gr.length c, .slice B l.length d] w fun e w' => e = .returned (.tuple #[]) ∧ Wr w0 w' g (fun _ => True) (xs ++ (lenBytes l ++ gr) ++ layAddrs l) := by
  have HW := Aside0.mk hW
  have HG := Aside0.mk hg
  have HL := Aside0.mk hl
  have HS := Aside0.mk hS
  have hn : l.length ≤ 140737488355328 := by omega
  clear hW hg hl hS
  go_enter Try.func17, Try.ntmps17
  go_wp2_with fail
  refine (lay16 w0 _ g S xs (some ⟨w.heap.size, 0, none⟩) 2 (lenBytes l) (HW.out.below (below_alloc (Below.refl _ _) _)) (C_new8 w (lenBytes l) (by simp [lenBytes])) (by simp [lenBytes]; omega)).mono ?_
  rintro e w1 ⟨rfl, hW1, hk1⟩
  have hgw := HG.out w1 (Kept.then_ (Kept.of_below (below_alloc (Below.refl _ w) (.cells ((lenBytes l).map (Value.int .u8)).toArray 5)) _) hk1 (fun _ h => .inl h))
  have HW1 := Aside0.mk hW1
  have HG1 := Aside0.mk hgw
  clear hW1 hk1 hgw
  go_wp2_with fail
  refine (lay16 w0 _ g _ (xs ++ lenBytes l) A c gr HW1.out HG1.out (by simp [lenBytes]; omega)).mono ?_
  rintro e w2 ⟨rfl, hW2, _⟩
  have HW2 := Aside0.mk (hW2.mono (S' := fun _ => True) (fun _ _ => trivial))
  clear hW2
  go_wp2
  go_loopw [23] (fun v wr => ∃ x : Nat, v = .int .i64 x ∧ x ≤ l.length ∧ Aside0 (Wr w0 wr g (fun _ => True) (xs ++ lenBytes l ++ gr ++ layAddrs (l.take x)))) (fun v _ => l.length - (intOf v).toNat)
  case atStart => exact ⟨0, rfl, by omega, ⟨by simpa [layAddrs] using HW2.out⟩⟩
  case round =>
    clear HW2 HW1 HG1 HW HG
    obtain ⟨x, rfl, hx, HX⟩ := hrel
    by_cases hlt : x < l.length
    · obtain ⟨ad0, rfl, p0⟩ := Kd.at_int (Kd.C_below HL.out HX.out.w0) (x : Int) (by omega) (by omega)
      simp only [Int.toNat_natCast] at p0
      rw [rd_eq l x hlt] at p0
      obtain ⟨a, ha⟩ : ∃ a, l[x] = a := ⟨_, rfl⟩
      rw [ha] at p0
      have HA := Aside0.mk ha
      clear ha
      go_wp2_with fail
      refine (addr_Bytes.calls 5 a (addrBytes a) _ (addrBytes_f a)).mono ?_
      rintro e w3 ⟨v0, rfl, hv, hb⟩
      obtain ⟨A3, c3, rfl, _, hC⟩ := Kd.R_reads hv
      have HX3 := Aside0.mk (HX.out.below hb)
      have HC3 := Aside0.mk hC
      clear hv hb hC p0
      go_wp2_with fail
      have hlen := addrBytes_length a
      have hlx := layAddrs_length (l.take x)
      rw [List.length_take] at hlx
      refine (lay16 w0 _ g _ _ A3 c3 (addrBytes a) HX3.out HC3.out (by simp only [List.length_append, lenBytes, List.length_cons, List.length_nil]; omega)).mono ?_
      rintro e w4 ⟨rfl, hW4, _⟩
      have HW4 := Aside0.mk (hW4.mono (S' := fun _ => True) (fun _ _ => trivial))
      clear hW4 hlen hlx
      go_wp2
      go_roundw
      case measure => simp [intOf]; omega
      case rel => exact ⟨x + 1, by go_num, by omega, ⟨by rw [layAddrs_take l x hlt, HA.out, ← List.append_assoc]; exact HW4.out⟩⟩
    · go_wp2
      go_end0
      refine ⟨rfl, ?_⟩
      have h := HX.out
      rw [List.take_of_length_le (by omega)] at h
      simpa using h
end Go.Proofs.Ytafmjhmpnlkeiaa.P

/- sum.Put, at 2: the walk. -/
namespace Go.Proofs.Ytafmjhmpnlkeiaa.P
open Go.RowKit Go.Proofs.YtafmjhmpnlkeiaaW.PrintWords Go.Proofs.YtafmjhmpnlkeiaaW.PrintLast Go.Proofs.YtafmjhmpnlkeiaaW.PrintMore
set_option linter.unusedVariables false
set_option linter.unusedSimpArgs false

def vals8 (l : List Int) : Array Value := (l.map (Value.int .u8)).toArray
/-- A block of bytes, known whole. -/
def Blk8 (W : World) (g : Nat) (l : List Int) : Prop := W.heap[g]? = some (.cells (vals8 l) 5 (0, 0))
theorem Blk8.cell {W : World} {g : Nat} {l : List Int} (h : Blk8 W g l) (j : Nat) (hj : j < l.length) : W.cell? ⟨g, j, none⟩ = some (.int .u8 (l.getD j 0)) := by
  simp only [World.cell?, Blk8] at h ⊢
  rw [h]
  simp [vals8, hj]
theorem Blk8.frozen {W : World} {g : Nat} {l : List Int} (h : Blk8 W g l) (j : Nat) : W.frozen? ⟨g, j, none⟩ = false := by
  simp only [World.frozen?, Blk8] at h ⊢
  rw [h]
  simp
theorem Blk8.set {W : World} {g : Nat} {l : List Int} (h : Blk8 W g l) (j : Nat) (x : Int) : Blk8 (W.setCell ⟨g, j, none⟩ (.int .u8 x)) g (l.set j x) := by
  simp only [Blk8, World.setCell] at h ⊢
  rw [Array.getElem?_modify]
  simp [h, vals8, List.map_set]
theorem Blk8.below {W W' : World} {g : Nat} {l : List Int} (h : Blk8 W g l) (hb : Below W.heap.size W W') : Blk8 W' g l := (hb.block _ (Array.getElem?_eq_some_iff.1 h).1).trans h
theorem Blk8.C {W : World} {g : Nat} {l : List Int} (h : Blk8 W g l) (hl : l.length ≤ 140737488355328) : Kd.C (Kd.int .u8) W (some ⟨g, 0, none⟩) l.length l := by
  refine ⟨rfl, by omega, fun _ => ⟨_, rfl, fun j p hj => ⟨[.int .u8 p], rfl, rfl, fun i u hi => ?_⟩⟩⟩
  have hjl : j < l.length := (List.getElem?_eq_some_iff.1 hj).1
  obtain rfl : i = 0 := by
    have := (List.getElem?_eq_some_iff.1 hi).1
    simpa using this
  obtain rfl : Value.int .u8 p = u := by simpa using hi
  rw [add_plain]
  show W.cell? ⟨g, j * 1 + 0, none⟩ = _
  rw [Nat.mul_one, Nat.add_zero, h.cell j hjl]
  simp [List.getD_eq_getElem?_getD, hj]
theorem Blk8.R {W : World} {g base : Nat} {l : List Int} (h : Blk8 W g l) (hg : base ≤ g) (hl : l.length ≤ 140737488355328) : Kd.R (Kd.int .u8) 5 W base (fun _ => True) (.slice (some ⟨g, 0, none⟩) l.length l.length) l := by
  refine Kd.R_of_own (enc := Value.int .u8) (h1 := fun _ => rfl) ⟨by simp [encs], .inr ⟨g, l.length, vals8 l, rfl, hg, h, Nat.le_refl _, by unfold maxLen; omega, by simp [vals8], by simp [vals8, encs, List.take_of_length_le]⟩⟩ (fun _ _ => trivial)
theorem okBytes_set {l : List Int} (h : okBytes l = true) (j : Nat) (x : Int) (h0 : 0 ≤ x) (h1 : x ≤ 255) : okBytes (l.set j x) = true := by
  unfold okBytes at *
  rw [List.all_eq_true] at *
  intro y hy
  rcases List.mem_or_eq_of_mem_set hy with h2 | rfl
  · exact h y h2
  · simp [h0, h1]
theorem made_size (n : Nat) : (madeCells #[Value.int .u8 0] n).size = n := by
  simp [madeCells]
theorem made_heap (w : World) (n : Nat) : (w.alloc (.cells (madeCells #[.int .u8 0] n) 5)).heap[w.heap.size]? = some (.cells (madeCells #[.int .u8 0] n).toList.toArray 5 (0, 0)) := by
  rw [Array.toArray_toList]
  exact World.alloc_heap_new w _
theorem made_splice {w1 : World} {g n : Nat} {l : List Int} (hs : (madeCells #[.int .u8 0] n).size = n) (h : Hid (w1.heap[g]? = some (.cells (splice (madeCells #[.int .u8 0] n).toList 0 (l.map (Value.int .u8))).toArray 5 (0, 0)))) (hl : l.length = n := by rfl) : Blk8 w1 g l := by
  have h2 := h.out
  unfold Blk8 vals8
  rw [h2]
  congr 3
  unfold splice
  simp [hl, hs]
theorem of44n (ad : Addr) (c0 n : Nat) (l0 : List Int) (w : World) (hn : l0.length = n) (hr0 : Kd.C (Kd.int .u8) w (some ad) n l0) (hc0 : n ≤ c0) (hcap : n ≤ 140737488355328) (hb : okBytes l0 = true) (h1 : 0 < n) :
    Calls Try.prog 44 #[.slice (some ad) n c0] w fun e w' => e = .returned (.int .u16 (turned16 (sum16 (wordsOf l0)))) ∧ Below w.heap.size w w' := by
  subst hn
  exact of44 ad c0 l0 w hr0 hc0 hcap (bytesOk_of hb) h1
def put2 (l : List Int) : List Int :=
  (((l.set 2 0).set 3 0).set 2 (turned16 (sum16 (wordsOf ((l.set 2 0).set 3 0))) / 256 % 256)).set 3 (turned16 (sum16 (wordsOf ((l.set 2 0).set 3 0))) % 256)
def sum_Put.f (l0 : List Int) (a1 : Int) : Option (List Int × Int) := if okBytes l0 = true ∧ a1 = 2 ∧ 4 ≤ l0.length ∧ l0.length ≤ 140737488355328 then some (put2 l0, 0) else none
set_option maxHeartbeats 2000000 in
set_option maxRecDepth 100000 in
theorem put19 (A0 : Option Addr) (c0 : Nat) (l0 : List Int) (w : World) (hr0 : Kd.C (Kd.int .u8) w A0 l0.length l0) (hc0 : l0.length ≤ c0) (hok : okBytes l0 = true) (h4 : 4 ≤ l0.length) (hl : l0.length ≤ 140737488355328) :
    Calls Try.prog 19 #[.slice A0 l0.length c0, .int .i64 2] w fun e w' => ∃ v0_ : Value, e = .returned (.tuple #[v0_, .int .i64 0]) ∧ Kd.R (Kd.int .u8) 5 w' w.heap.size (fun _ => True) v0_ (put2 l0) ∧ Below w.heap.size w w' := by
  have HR := Aside0.mk hr0
  have HOK := Aside0.mk hok
  have hmk := print_make (P := Try.prog) 30 5 .u8 1 Try.underlying30 info5 (by decide) l0.length (by omega)
  clear hr0 hok
  go_enter Try.func19, Try.ntmps19
  have hsz : (madeCells #[.int .u8 0] l0.length).size = l0.length := made_size l0.length
  have hcs : ∀ ad, A0 = some ad → ∀ j v, ((l0.map (Value.int .u8))[j]? = some v) → w.cell? (ad.add j) = some v := by
    rintro ad rfl j v hj
    have hjl : j < l0.length := by have := (List.getElem?_eq_some_iff.1 hj).1; simpa using this
    obtain ⟨ad', e, hc⟩ := Kd.at_int HR.out (j : Int) (by omega) (by omega)
    obtain rfl := Option.some.inj e
    simp only [Int.toNat_natCast] at hc
    rw [hc, rd_eq l0 j hjl, ← hj]
    simp [hjl]
  have HCS := Aside0.mk hcs
  have HSZ := Aside0.mk hsz
  have HF : Aside0 (0 + (l0.map (Value.int .u8)).length ≤ (madeCells #[Value.int .u8 0] l0.length).toList.length) := ⟨by have h := hsz; rw [← Array.length_toList] at h; rw [List.length_map]; omega⟩
  have H1C : Aside0 (∀ v ∈ l0.map (Value.int .u8), v.oneCell' = true) := ⟨by intro v hv; obtain ⟨x, _, rfl⟩ := List.mem_map.1 hv; rfl⟩
  have HN : Aside0 ((l0.map (Value.int .u8)).length = Nat.min l0.length l0.length) := ⟨by rw [List.length_map]; exact (Nat.min_self _).symm⟩
  obtain ⟨ad0, had0⟩ : ∃ ad, A0 = some ad := by
    obtain ⟨ad, e, _⟩ := Kd.at_int HR.out (0 : Int) (by omega) (by omega)
    exact ⟨ad, e⟩
  have HA := Aside0.mk had0
  clear had0 hsz hcs
  go_wp2_with ((with_reducible refine gate_builtin (b := .copy) rfl ?_); refine wpList_copy_splice rfl (.tmp 25) (.tmp 26) 30 30 rfl 5 Try.underlying30 (by kernel_rfl) (some ⟨w.heap.size, 0, none⟩) A0 l0.length l0.length l0.length c0 rfl rfl w.heap.size 0 (madeCells #[.int .u8 0] l0.length).toList 5 (made_heap w l0.length) (l0.map (Value.int .u8)) HN.out (fun _ => ⟨rfl, ad0, HA.out, fun j v hj => pw_cell_below (below_alloc (Below.refl _ w) _) (HCS.out _ HA.out j v hj)⟩) HF.out H1C.out w.heap.size w (below_alloc (Below.refl _ w) _) (Nat.le_refl _) ?_; intro w1 hw1 hb1; have B1 := Aside0.mk (made_splice HSZ.out hw1); have HB1 := Aside0.mk hb1; have e2 := B1.out.cell 2 (by omega); have e3 := B1.out.cell 3 (by omega); have f2 := B1.out.frozen 2; have f3 := B1.out.frozen 3; clear hw1 hb1)
  have hl2 : ((l0.set 2 0).set 3 0).length = l0.length := by rw [List.length_set, List.length_set]
  have b2 := (B1.out.set 2 0).set 3 0
  obtain ⟨o, ho⟩ : ∃ o, (l0.set 2 0).set 3 0 = o := ⟨_, rfl⟩
  rw [ho] at b2 hl2
  have hok2 : okBytes o = true := by rw [← ho]; exact okBytes_set (okBytes_set HOK.out 2 0 (by omega) (by omega)) 3 0 (by omega) (by omega)
  have HO := Aside0.mk ho
  have B2 := Aside0.mk b2
  have hb2 := Aside0.mk ((HB1.out.setCell (p := ⟨w.heap.size, 2, none⟩) (Nat.le_refl _) (.int .u8 0)).setCell (p := ⟨w.heap.size, 3, none⟩) (Nat.le_refl _) (.int .u8 0))
  clear ho b2 e2 e3 f2 f3
  refine (of44n ⟨w.heap.size, 0, none⟩ l0.length l0.length o _ hl2 (by rw [← hl2]; exact B2.out.C (by omega)) (Nat.le_refl _) hl hok2 (by omega)).mono ?_
  rintro e w3 ⟨rfl, hb3⟩
  have b3 := B2.out.below hb3
  have HB3 := Aside0.mk (hb2.out.trans (hb3.mono hb2.out.size))
  obtain ⟨s, hs⟩ : ∃ s, turned16 (sum16 (wordsOf o)) = s := ⟨_, rfl⟩
  rw [hs]
  have Hs := Aside0.mk hs
  have HL2 := Aside0.mk hl2
  have e2 := b3.cell 2 (by omega)
  have e3 := b3.cell 3 (by omega)
  have f2 := b3.frozen 2
  have f3 := b3.frozen 3
  have B3 := Aside0.mk b3
  clear b3 hb3 hs hl2
  go_wp2
  go_ret2
  have b4 := (B3.out.set 2 (s / 256 % 256)).set 3 (s % 256)
  have hl4 : ((o.set 2 (s / 256 % 256)).set 3 (s % 256)).length = l0.length := by rw [List.length_set, List.length_set, HL2.out]
  have hR := Kd.R_lower (b4.R (base := w.heap.size) (Nat.le_refl _) (by omega)) (Nat.le_refl _)
  rw [hl4] at hR
  have hp : put2 l0 = (o.set 2 (s / 256 % 256)).set 3 (s % 256) := by
    unfold put2
    rw [HO.out, Hs.out]
  rw [hp]
  exact ⟨_, rfl, hR, (HB3.out.setCell (p := ⟨w.heap.size, 2, none⟩) (Nat.le_refl _) _).setCell (p := ⟨w.heap.size, 3, none⟩) (Nat.le_refl _) _⟩
theorem sum_Put.calls (A0 : Option Addr) (c0 : Nat) (l0 : List Int) (a1 : Int) (r1 : List Int) (r2 : Int) (w : World) (hr0 : Kd.C (Kd.int .u8) w A0 l0.length l0) (hc0 : l0.length ≤ c0) (h : sum_Put.f l0 a1 = some (r1, r2)) :
    Calls Try.prog 19 #[.slice A0 l0.length c0, .int .i64 a1] w fun e w' => ∃ v0_ : Value, e = .returned (.tuple #[v0_, .int .i64 r2]) ∧ Kd.R (Kd.int .u8) 5 w' w.heap.size (fun _ => True) v0_ r1 ∧ Below w.heap.size w w' := by
  unfold sum_Put.f at h
  by_cases hc : okBytes l0 = true ∧ a1 = 2 ∧ 4 ≤ l0.length ∧ l0.length ≤ 140737488355328
  · rw [if_pos hc] at h
    simp only [Option.some.injEq, Prod.mk.injEq] at h
    obtain ⟨rfl, rfl⟩ := h
    obtain ⟨h1, rfl, h3, h4⟩ := hc
    exact put19 A0 c0 l0 w hr0 hc0 h1 h3 h4
  · rw [if_neg hc] at h
    cases h
end Go.Proofs.Ytafmjhmpnlkeiaa.P
