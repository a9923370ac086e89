/- Seat 5's texts, merged by a program of this session: GLaw8, GOpen, LawIgmpWrites. Parts of the proof of IgmpWrites: whatever two messages, the law returns true. -/
import Derived.Test.YtafmjhmpnlkeiaaMK
import Derived.Test.YtafmjhmpnlkeiaaMN
import Derived.Test.YtafmjhmpnlkeiaaRows
import Derived.WalkKit
import Derived.ProofKit
import Derived.OpenShut
import Derived.ShutString
import Derived.ChangeOld
import Derived.Below
import Derived.SizedLaws
import Derived.Deep.Slices
import Derived.Deep.Fields
import Derived.ChangeSame
import Derived.Lib.SmallJoins

/- The plain law of IgmpWrites. -/
namespace Go.Proofs.Ytafmjhmpnlkeiaa.P
open Go.RowKit Go.Proofs.YtafmjhmpnlkeiaaW.PrintWords Go.Proofs.YtafmjhmpnlkeiaaW.PrintLast Go.Proofs.YtafmjhmpnlkeiaaW.PrintMore
set_option linter.unusedVariables false
set_option linter.unusedSimpArgs false

theorem Ev.of_mono {α : Type} {f : Nat → Option α} {v : α} (hm : ∀ k, LeO (f k) (f (k + 1))) (k0 : Nat) (h : f k0 = some v) : Ev f v := by
  refine ⟨k0, fun k hk => ?_⟩
  obtain ⟨d, rfl⟩ : ∃ d, k = k0 + d := ⟨k - k0, by omega⟩
  clear hk
  induction d with
  | zero => exact h
  | succ d ih => exact hm _ _ ih
theorem shown_ev : Ev (fun k => stolonlaw05_shown.f k) true := Ev.of_mono (fun k => stolonlaw05_shown.mono k) 20 shown_ex
theorem few_l0 (m : Msg) (hm : m.short) (d : Nat) : ∀ (x : Nat) (s : Int), m.recs.length - x = d → x ≤ m.recs.length → ∃ v, Ev (fun k => stolonref05_Few.l0 k s (x : Int) m.kind m.ver m.code m.group m.quiet m.robust m.every m.srcs m.recs) v := by
  induction d with
  | zero =>
    intro x s hd hx
    exact ⟨_, Ev.succ (fun k => by simp only [stolonref05_Few.l0]; rw [if_neg (by omega)]) (Ev.const rfl)⟩
  | succ d ih =>
    intro x s hd hx
    have hxl : x < m.recs.length := by omega
    by_cases hs : s ≤ 3000
    · obtain ⟨v, hv⟩ := ih (x + 1) (wrap64 (s + (((rd_T44 m.recs (x : Int)).f2).length : Int))) (by omega) (by omega)
      exact ⟨v, Ev.succ (fun k => by simp only [stolonref05_Few.l0]; rw [if_pos (by omega), if_pos hs, if_pos (by omega), wrap_succ x m.recs.length hxl hm.2.1]) hv⟩
    · exact ⟨_, Ev.succ (fun k => by simp only [stolonref05_Few.l0]; rw [if_pos (by omega), if_neg hs]) (Ev.const rfl)⟩
theorem few_ev (m : Msg) (hm : m.short) : ∃ v, Ev (fun k => stolonref05_Few.f k m.kind m.ver m.code m.group m.quiet m.robust m.every m.srcs m.recs) v := few_l0 m hm _ 0 _ rfl (by omega)
theorem put2_length (l : List Int) : (put2 l).length = l.length := by simp [put2]
theorem writes_j0 (m n : Msg) (hm : m.short) (ho : m.ok) (hn : n.short) (x : Bool) : Ev (fun k => stolonlaw05_IgmpWrites.j0 k true x m.kind m.ver m.code m.group m.quiet m.robust m.every m.srcs m.recs n.kind n.ver n.code n.group n.quiet n.robust n.every n.srcs n.recs) true := by
  refine Ev.succ (fun k => by simp only [stolonlaw05_IgmpWrites.j0]; rfl) ?_
  refine Ev.ite (fun h => Ev.const rfl) (fun h => ?_)
  refine Ev.bind (enc7 m hm ho) (Ev.bind (enc8 m hm ho) ?_)
  refine Ev.congr (fun k => if_pos trivial) ?_
  refine Ev.bind (right9 m hm) (Ev.bind (right10 m hm) ?_)
  refine Ev.congr (fun k => if_pos (by simp)) ?_
  have hlen : (encV m).1.length ≤ 9223372036854775807 := by
    unfold encV
    split
    case isTrue e =>
      have := (body_ok m ho e).2.2
      show (put2 m.body).length ≤ _
      rw [put2_length]
      omega
    case isFalse => simp
  refine Ev.bind (u := true) ((same11_f (encV m).1 (encV m).1 hlen).val (by simp)) ?_
  refine Ev.congr (fun k => (if_pos rfl).trans (if_pos rfl)) ?_
  refine Ev.bind (same12 m n hm) (Ev.bind (same13 m n hm) (Ev.const ?_))
  simp
theorem writes_ev (m n : Msg) (hm : m.short) (ho : m.ok) (hn : n.short) : Ev (fun k => stolonlaw05_IgmpWrites.f k m.kind m.ver m.code m.group m.quiet m.robust m.every m.srcs m.recs n.kind n.ver n.code n.group n.quiet n.robust n.every n.srcs n.recs) true := by
  obtain ⟨v1, h1⟩ := few_ev m hm
  obtain ⟨v2, h2⟩ := few_ev n hn
  unfold stolonlaw05_IgmpWrites.f
  refine Ev.bind shown_ev (Ev.bind h1 ?_)
  refine Ev.ite (fun h => Ev.bind h2 ?_) (fun h => ?_)
  · exact writes_j0 m n hm ho hn _
  · exact writes_j0 m n hm ho hn _
end Go.Proofs.Ytafmjhmpnlkeiaa.P

/- A message handed to a law: opened to its fields. -/
namespace Go.Proofs.Ytafmjhmpnlkeiaa.igmpOpen
open Go.Joins Go.ChangeShapes Go.WideShapes Go.RowKit Go.Deep Go.Proofs.Ytafmjhmpnlkeiaa.P Go.Proofs.YtafmjhmpnlkeiaaW.PrintWords
set_option linter.unusedVariables false
section
variable {H : Type} {enc : TypeId × Value → H} {P : Program} {w : World} {base : Nat} {spare : Nat → Bool} {held : Bool}
theorem open_slice_fields {t e : TypeId} {fs : Array Field} {fuel : Nat} {cs : List Value} {x : DataW H × List MemPlace} (ht : P.underlying t = some (.slice e)) (he : P.underlying e = some (.struct fs))
    (hone : oneCellFields P fs = true) (hC : P.cellsOf e = fs.size) (h : DataW.trod enc P w base spare held fuel t cs = some x) :
    (cs = [.slice none 0 0] ∧ x = (.nil, [])) ∨
    ∃ (a : Addr) (len cap m : Nat) (D : Nat → DataW H) (Pl : Nat → List MemPlace), cs = [.slice (some a) len cap] ∧ base ≤ a.block ∧ len ≤ cap ∧ cap ≤ maxLen ∧ m = (if spare a.block then cap else len) ∧
      x = (.slice ((List.range len).map D) ((List.range (m - len)).map fun j => D (len + j)), MemPlace.row a (m * fs.size) ++ (List.range m).flatMap Pl) ∧
      ∀ i, i < m → ∃ (ys : List (DataW H × List MemPlace)) (n : Nat), D i = .agg (ys.map (·.1)) ∧ Pl i = ys.flatMap (·.2) ∧ ys.length = fs.size ∧
        ∀ (j : Nat) (f : Field), fs[j]? = some f → ∃ (v : Value) (y : DataW H × List MemPlace), w.cell? (a.add (i * fs.size + j)) = some v ∧ ys[j]? = some y ∧ DataW.trod enc P w base spare held n f.type [v] = some y := by
  rcases open_slice ht h with h0 | ⟨a, len, cap, m, n, D, Pl, hcs, hb, hl, hm, hmm, hx, hi⟩
  · exact .inl h0
  · refine .inr ⟨a, len, cap, m, D, Pl, hcs, hb, hl, hm, hmm, by rw [hC] at hx; exact hx, fun i him => ?_⟩
    obtain ⟨cs', hc, ht'⟩ := hi i him
    rw [hC] at hc
    obtain ⟨ys, n', hn', hy, hlen, hyl, hf⟩ := DataW.trod_struct he ht'
    obtain ⟨_, hcl, hat⟩ := World.cells?_some hc
    simp only [Prod.mk.injEq] at hy
    refine ⟨ys, n', hy.1, hy.2, hyl, fun j f hj => ?_⟩
    obtain ⟨ho, hk⟩ := hone_of hone j f hj
    have hjl : j < fs.size := (Array.getElem?_eq_some_iff.1 hj).1
    have hcell := hat j hjl
    have hv : cs'[j]? = some (cs'[j]'(by omega)) := List.getElem?_eq_getElem (by omega)
    have h1 := hf j f hj
    rw [ho, hk] at h1
    have hone' : (cs'.drop j).take 1 = [cs'[j]'(by omega)] := by
      rw [List.drop_eq_getElem_cons (by omega)]
      rfl
    rw [hone'] at h1
    have hys : ys[j]? = some (ys[j]'(by omega)) := List.getElem?_eq_getElem (by omega)
    refine ⟨_, _, ?_, hys, h1.trans hys⟩
    rw [← Go.Deep.add_add, hcell, hv]
theorem open_agg9 {r : Reach} {b0 : Nat} {t : TypeId} {f0 f1 f2 f3 f4 f5 f6 f7 f8 : Field} {v : Value} {d : DataW H} {p : List MemPlace} (hs : P.underlying t = some (.struct #[f0, f1, f2, f3, f4, f5, f6, f7, f8])) (hone : oneCellFields P #[f0, f1, f2, f3, f4, f5, f6, f7, f8] = true) (hC : P.cellsOf t = 9)
    (hv : Value.okWide P w r b0 t v) (h : DataW.Trod enc P w base spare held t v d p) :
    ∃ (v0 v1 v2 v3 v4 v5 v6 v7 v8 : Value) (y0 y1 y2 y3 y4 y5 y6 y7 y8 : DataW H × List MemPlace) (n : Nat), v = .agg #[v0, v1, v2, v3, v4, v5, v6, v7, v8] ∧ DataW.trod enc P w base spare held n f0.type [v0] = some y0 ∧ DataW.trod enc P w base spare held n f1.type [v1] = some y1 ∧ DataW.trod enc P w base spare held n f2.type [v2] = some y2 ∧ DataW.trod enc P w base spare held n f3.type [v3] = some y3 ∧ DataW.trod enc P w base spare held n f4.type [v4] = some y4 ∧ DataW.trod enc P w base spare held n f5.type [v5] = some y5 ∧ DataW.trod enc P w base spare held n f6.type [v6] = some y6 ∧ DataW.trod enc P w base spare held n f7.type [v7] = some y7 ∧ DataW.trod enc P w base spare held n f8.type [v8] = some y8 := by
  obtain ⟨cs, rfl, hsz⟩ := okWide_struct hs hv
  obtain ⟨l⟩ := cs
  match l, hsz.trans hC with
  | [c0, c1, c2, c3, c4, c5, c6, c7, c8], _ =>
    obtain ⟨fuel, hf⟩ := h
    obtain ⟨xs, n, _, hx, _, hlen, hg⟩ := DataW.trod_struct hs hf
    obtain ⟨o0, k0⟩ := hone_of hone 0 f0 rfl
    obtain ⟨o1, k1⟩ := hone_of hone 1 f1 rfl
    obtain ⟨o2, k2⟩ := hone_of hone 2 f2 rfl
    obtain ⟨o3, k3⟩ := hone_of hone 3 f3 rfl
    obtain ⟨o4, k4⟩ := hone_of hone 4 f4 rfl
    obtain ⟨o5, k5⟩ := hone_of hone 5 f5 rfl
    obtain ⟨o6, k6⟩ := hone_of hone 6 f6 rfl
    obtain ⟨o7, k7⟩ := hone_of hone 7 f7 rfl
    obtain ⟨o8, k8⟩ := hone_of hone 8 f8 rfl
    match xs, hlen with
    | [y0, y1, y2, y3, y4, y5, y6, y7, y8], _ =>
      exact ⟨c0, c1, c2, c3, c4, c5, c6, c7, c8, y0, y1, y2, y3, y4, y5, y6, y7, y8, n, rfl, by simpa [Value.cells, o0, k0] using hg 0 f0 rfl, by simpa [Value.cells, o1, k1] using hg 1 f1 rfl, by simpa [Value.cells, o2, k2] using hg 2 f2 rfl, by simpa [Value.cells, o3, k3] using hg 3 f3 rfl, by simpa [Value.cells, o4, k4] using hg 4 f4 rfl, by simpa [Value.cells, o5, k5] using hg 5 f5 rfl, by simpa [Value.cells, o6, k6] using hg 6 f6 rfl, by simpa [Value.cells, o7, k7] using hg 7 f7 rfl, by simpa [Value.cells, o8, k8] using hg 8 f8 rfl⟩
end
theorem wf_u8 {n : Int} (h : (Lit.int .u8 n).wf = true) : okB n := by
  simp [Lit.wf, IntKind.min, IntKind.max, IntKind.bits, IntKind.signed] at h
  unfold okB
  omega
theorem wf_u32 {n : Int} (h : (Lit.int .u32 n).wf = true) : okA n := by
  simp [Lit.wf, IntKind.min, IntKind.max, IntKind.bits, IntKind.signed] at h
  unfold okA
  omega
section
variable {H : Type} {enc : TypeId × Value → H} {W : World} {base : Nat} {held : Bool}
theorem addrs_open {n : Nat} {v : Value} {y : DataW H × List MemPlace} (h : DataW.trod enc Try.prog W base (fun _ => true) held n 24 [v] = some y) :
    ∃ (A : Option Addr) (l : List Int) (c : Nat), v = .slice A l.length c ∧ l.length ≤ c ∧ l.length ≤ 9223372036854775807 ∧ (∀ a ∈ l, okA a) ∧ Kd.C (Kd.int .u32) W A l.length l := by
  rcases open_ints Try.underlying24 Try.underlying23 (by kernel_rfl) h with ⟨hcs, _⟩ | ⟨x, l, c, zs, hcs, _, hl, hm, hz, _, hcell, hwz⟩
  · obtain rfl := (List.cons.inj hcs).1
    exact ⟨none, [], 0, rfl, Nat.le_refl _, by simp, by simp, Kd.C_nil _ _⟩
  · obtain rfl := (List.cons.inj hcs).1
    have hz' : zs.length = c := by simpa using hz
    have hm' : c ≤ 9223372036854775807 := hm
    have hlen : (zs.take l).length = l := by rw [List.length_take]; omega
    refine ⟨some x, zs.take l, c, by rw [hlen], by omega, by omega, fun a ha => wf_u32 (hwz a (List.mem_of_mem_take ha)), ?_⟩
    refine ⟨rfl, by omega, fun _ => ⟨x, rfl, fun j p hj => ⟨[.int .u32 p], rfl, rfl, fun i u hi => ?_⟩⟩⟩
    have hjl : j < (zs.take l).length := (List.getElem?_eq_some_iff.1 hj).1
    obtain rfl : i = 0 := by
      have := (List.getElem?_eq_some_iff.1 hi).1
      simpa using this
    obtain rfl : Value.int .u32 p = u := by simpa using hi
    have hjz : j < zs.length := by omega
    have hc := hcell j hjz
    have hp : zs.getD j 0 = p := by
      rw [List.getElem?_take] at hj
      rw [if_pos (by omega)] at hj
      rw [List.getD_eq_getElem?_getD, hj]
      rfl
    rw [hp] at hc
    show W.cell? (x.add (j * 1 + 0)) = _
    rw [Nat.mul_one, Nat.add_zero]
    exact hc
theorem list_of {α : Type} {P : Nat → α → Prop} (n : Nat) (h : ∀ i, i < n → ∃ r, P i r) : ∃ l : List α, l.length = n ∧ ∀ i r, l[i]? = some r → P i r := by
  induction n with
  | zero => exact ⟨[], rfl, fun i r h => by simp at h⟩
  | succ n ih =>
    obtain ⟨l, hl, hp⟩ := ih (fun i hi => h i (by omega))
    obtain ⟨r, hr⟩ := h n (by omega)
    refine ⟨l ++ [r], by simp [hl], fun i r' hi => ?_⟩
    by_cases e : i < l.length
    · rw [List.getElem?_append_left e] at hi
      exact hp i r' hi
    · have hi2 : i < (l ++ [r]).length := (List.getElem?_eq_some_iff.1 hi).1
      have : i = n := by simp at hi2; omega
      subst this
      rw [List.getElem?_append_right (by omega)] at hi
      have e2 : i - l.length = 0 := by omega
      rw [e2] at hi
      obtain rfl : r = r' := by simpa using hi
      exact hr
theorem recs_open {n : Nat} {v : Value} {y : DataW H × List MemPlace} (h : DataW.trod enc Try.prog W base (fun _ => true) held n 25 [v] = some y) :
    ∃ (A : Option Addr) (l : List S44) (c : Nat), v = .slice A l.length c ∧ l.length ≤ c ∧ l.length ≤ 9223372036854775807 ∧ (∀ r ∈ l, okR r ∧ r.f2.length ≤ 9223372036854775807) ∧ Kd.C k44 W A l.length l := by
  rcases open_slice_fields Try.underlying25 Try.underlying44 (by kernel_rfl) (by kernel_rfl) h with ⟨hcs, _⟩ | ⟨x, l, c, m, D, Pl, hcs, _, hl, hm, hmm, _, hi⟩
  · obtain rfl := (List.cons.inj hcs).1
    exact ⟨none, [], 0, rfl, Nat.le_refl _, by simp, by simp, Kd.C_nil _ _⟩
  · obtain rfl := (List.cons.inj hcs).1
    have hm' : c ≤ 9223372036854775807 := hm
    have hmc : m = c := by simpa using hmm
    obtain ⟨rs, hlen, hrs⟩ := list_of (P := fun i r => (okR r ∧ r.f2.length ≤ 9223372036854775807) ∧ ∃ cs, k44.K W r cs ∧ ∀ j u, cs[j]? = some u → W.cell? (x.add (i * 3 + j)) = some u) l (fun i hil => by
      obtain ⟨ys, q, _, _, _, hf⟩ := hi i (by omega)
      obtain ⟨v0, y0, c0, _, t0⟩ := hf 0 _ rfl
      obtain ⟨v1, y1, c1, _, t1⟩ := hf 1 _ rfl
      obtain ⟨v2, y2, c2, _, t2⟩ := hf 2 _ rfl
      obtain ⟨n0, e0, _, w0⟩ := DataW.trod_int Try.underlying5 t0
      obtain ⟨n1, e1, _, w1⟩ := DataW.trod_int Try.underlying23 t1
      obtain ⟨A2, l2, cap2, e2, g2, g3, g4, g5⟩ := addrs_open t2
      obtain rfl := (List.cons.inj e0).1
      obtain rfl := (List.cons.inj e1).1
      subst e2
      refine ⟨⟨n0, n1, l2⟩, ⟨⟨wf_u8 w0, wf_u32 w1, g4⟩, g3⟩, _, k44_mk W ⟨n0, n1, l2⟩ g2 g5, fun j u hj => ?_⟩
      have hjl := (List.getElem?_eq_some_iff.1 hj).1
      have hj3 : j = 0 ∨ j = 1 ∨ j = 2 := by simp at hjl; omega
      rcases hj3 with rfl | rfl | rfl
      · obtain rfl : Value.int .u8 n0 = u := by simpa using hj
        exact c0
      · obtain rfl : Value.int .u32 n1 = u := by simpa using hj
        exact c1
      · obtain rfl : Value.slice A2 l2.length cap2 = u := by simpa using hj
        exact c2)
    refine ⟨some x, rs, c, by rw [hlen], by omega, by omega, fun r hr => ?_, ?_⟩
    · obtain ⟨i, hi', he⟩ := List.getElem_of_mem hr
      exact (hrs i r (by rw [List.getElem?_eq_getElem hi', he])).1
    · refine ⟨rfl, by omega, fun _ => ⟨x, rfl, fun j p hj => ?_⟩⟩
      obtain ⟨_, cs, hK, hc⟩ := hrs j p hj
      exact ⟨cs, k44.K_len hK, hK, hc⟩
/-- A message's value, opened. -/
theorem msg_open {r : Reach} {b0 : Nat} {v : Value} {d : DataW H} {p : List MemPlace} (hv : Value.okWide Try.prog W r b0 27 v) (h : DataW.Trod enc Try.prog W base (fun _ => true) held 27 v d p) :
    ∃ (m : Msg) (A7 : Option Addr) (c7 : Nat) (A8 : Option Addr) (c8 : Nat), v = .agg #[.int .u8 m.kind, .int .i64 m.ver, .int .u8 m.code, .int .u32 m.group, .bool m.quiet, .int .u8 m.robust, .int .u8 m.every, .slice A7 m.srcs.length c7, .slice A8 m.recs.length c8] ∧
      m.short ∧ m.ok ∧ Kd.C (Kd.int .u32) W A7 m.srcs.length m.srcs ∧ m.srcs.length ≤ c7 ∧ Kd.C k44 W A8 m.recs.length m.recs ∧ m.recs.length ≤ c8 := by
  obtain ⟨v0, v1, v2, v3, v4, v5, v6, v7, v8, y0, y1, y2, y3, y4, y5, y6, y7, y8, n, rfl, t0, t1, t2, t3, t4, t5, t6, t7, t8⟩ := open_agg9 Try.underlying27 (by kernel_rfl) (by kernel_rfl) hv h
  obtain ⟨n0, e0, _, w0⟩ := DataW.trod_int Try.underlying5 t0
  obtain ⟨n1, e1, _, w1⟩ := DataW.trod_int Try.underlying3 t1
  obtain ⟨n2, e2, _, w2⟩ := DataW.trod_int Try.underlying5 t2
  obtain ⟨n3, e3, _, w3⟩ := DataW.trod_int Try.underlying23 t3
  obtain ⟨n4, e4, _⟩ := DataW.trod_bool Try.underlying4 t4
  obtain ⟨n5, e5, _, w5⟩ := DataW.trod_int Try.underlying5 t5
  obtain ⟨n6, e6, _, w6⟩ := DataW.trod_int Try.underlying5 t6
  obtain ⟨A7, l7, c7, e7, g1, g2, g3, g4⟩ := addrs_open t7
  obtain ⟨A8, l8, c8, e8, k1, k2, k3, k4⟩ := recs_open t8
  obtain rfl := (List.cons.inj e0).1
  obtain rfl := (List.cons.inj e1).1
  obtain rfl := (List.cons.inj e2).1
  obtain rfl := (List.cons.inj e3).1
  obtain rfl := (List.cons.inj e4).1
  obtain rfl := (List.cons.inj e5).1
  obtain rfl := (List.cons.inj e6).1
  subst e7
  subst e8
  exact ⟨⟨n0, n1, n2, n3, n4, n5, n6, l7, l8⟩, A7, c7, A8, c8, rfl, ⟨g2, k2, fun r hr => (k3 r hr).2⟩, ⟨wf_u8 w0, wf_u8 w2, wf_u32 w3, wf_u8 w5, wf_u8 w6, g3, fun r hr => (k3 r hr).1⟩, g4, g1, k4, k1⟩
end
end Go.Proofs.Ytafmjhmpnlkeiaa.igmpOpen

/- The row of IgmpWrites: whatever two messages, it returns true, and they read behind the call as before. -/
namespace Go.Proofs.Ytafmjhmpnlkeiaa.igmpWrites
open Go.ChangeShapes Go.WideShapes Go.ChangeAt Go.RowKit Go.Proofs.Ytafmjhmpnlkeiaa.P
open Go.ChangeMaps (open_string shut_string)
set_option linter.unusedVariables false
theorem own : ownKnob Try.prog.godebug = none := by kernel_rfl
theorem laidOut : laidOutB Try.prog = true := by kernel_rfl
set_option maxRecDepth 100000 in
theorem lifted (os : Os) (started : os.Started) (H : Type) (enc : TypeId × Value → H) :
    ReturnsInHanded {} Try.checked os 3 .any (Rows.igmpWritesSpec.pre6 enc Try.prog Try.f3 Rows.igmpWritesRow.domain false) (Rows.igmpWritesSpec.post enc Try.prog Try.f3 false true false false) := by
  refine returnsInHanded_of_change_sized (C := Try.checked) own started (by kernel_rfl) Try.func3
    (ChangeSpec.witness6 (enc := enc) (C := Try.checked) false ⟨#[], #[.agg #[.int .u8 0, .int .i64 0, .int .u8 0, .int .u32 0, .bool false, .int .u8 0, .int .u8 0, .slice none 0 0, .slice none 0 0], .agg #[.int .u8 0, .int .i64 0, .int .u8 0, .int .u32 0, .bool false, .int .u8 0, .int .u8 0, .slice none 0 0, .slice none 0 0]], []⟩ 8 (by kernel_rfl) (by kernel_rfl) (by kernel_rfl) (by kernel_rfl)) ?_
  intro W base args ds gs before hval0 hW hcnd hsz0 _
  have hval : ∀ (j : Nat) t v, Try.f3.params[j]? = some t → args[j]? = some v → Value.okWide Try.prog W .any base t v := hval0
  have hW' := hW
  obtain ⟨p, q, hA0, hV, rfl, hfz, hnd⟩ := hW
  have hA : DataW.TrodAll enc Try.prog W 0 (fun _ => true) true Try.f3.params.toList args.toList ds p := hA0
  rw [Try.params3] at hA hval
  obtain ⟨v0, vs0, d0, ds0, p0, q0, hargs, rfl, rfl, h0, r0⟩ := trodAll_cons hA
  obtain ⟨v1, vs1, d1, ds1, p1, q1, rfl, rfl, rfl, h1, r1⟩ := trodAll_cons r0
  obtain ⟨rfl, rfl, rfl⟩ := trodAll_nil r1
  obtain rfl : args = #[v0, v1] := by cases args; simp_all
  obtain ⟨rfl, rfl⟩ := trodVars_none hV
  obtain ⟨m, A7, c7, A8, c8, rfl, hm, mo, e7, l7, e8, l8⟩ := igmpOpen.msg_open (hval 0 27 v0 rfl rfl) h0
  obtain ⟨n, B7, b7, B8, b8, rfl, hn, no, f7, g7, f8, g8⟩ := igmpOpen.msg_open (hval 1 27 v1 rfl rfl) h1
  have lt0 : ∀ x ∈ p0, x.block < W.heap.size := by obtain ⟨m, hm⟩ := h0; exact DataW.trod_lt m _ _ _ hm
  have lt1 : ∀ x ∈ p1, x.block < W.heap.size := by obtain ⟨m, hm⟩ := h1; exact DataW.trod_lt m _ _ _ hm
  clear hA0 hval0 hsz0
  obtain ⟨k, hk⟩ := writes_ev m n hm mo hn
  refine (stolonlaw05_IgmpWrites.calls k m.kind m.ver m.code m.group m.quiet m.robust m.every A7 c7 m.srcs A8 c8 m.recs n.kind n.ver n.code n.group n.quiet n.robust n.every B7 b7 n.srcs B8 b8 n.recs true W e7 l7 e8 l8 f7 g7 f8 g8 (hk k (Nat.le_refl _)) rfl).mono fun e W' ⟨he, bel⟩ => ?_
  subst he
  exact ⟨_, rfl, _, _, _, [], _, [], hW', trodAll_mk1 (shut_bool Try.underlying4 _), (trodAll_cons_mk (Below.trod laidOut (by kernel_rfl) (of_decide_eq_true (by kernel_rfl)) h0 bel lt0) (trodAll_cons_mk (Below.trod laidOut (by kernel_rfl) (of_decide_eq_true (by kernel_rfl)) h1 bel lt1) trodAll_mk0)), rfl, bel.frame _, fun h => by cases h⟩
theorem over : Rows.igmpWritesRow.holds Try.pinned (OpenSpec.ofChange Rows.igmpWritesSpec) :=
  OpenClaim.holds_of_wide 3 Try.f3 rfl rfl rfl rfl rfl rfl rfl ⟨rfl, rfl, rfl, rfl, rfl⟩ rfl rfl rfl rfl rfl (by kernel_rfl) Try.func3 (by kernel_rfl)
    (of_decide_eq_true (by kernel_rfl)) (by unfold Func.isWrapper; first | (rw [if_pos (by decide +kernel)]; kernel_rfl) | (rw [if_neg (by decide +kernel)]; exact ⟨rfl, rfl⟩))
    (fun os started H enc _ => lifted os started H enc)
theorem proved : Rows.IgmpWritesSaid := over
#print axioms proved
end Go.Proofs.Ytafmjhmpnlkeiaa.igmpWrites
namespace Go.Proofs.Ytafmjhmpnlkeiaa
/-- The row, under a short name, for the claim. -/
theorem igmpWrites_holds : Rows.IgmpWritesSaid := igmpWrites.proved
end Go.Proofs.Ytafmjhmpnlkeiaa
