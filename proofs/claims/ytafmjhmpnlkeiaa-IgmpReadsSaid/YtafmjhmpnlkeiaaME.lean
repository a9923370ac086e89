/- A part of the proof of IgmpReads: whatever the bytes, the law returns true. Merged by a program of this work, without what is not used: GMap, GDecode1. -/
import Derived.Test.YtafmjhmpnlkeiaaMD

namespace Go.Proofs.Ytafmjhmpnlkeiaa.P
open Go.RowKit Go.Proofs.YtafmjhmpnlkeiaaW.PrintWords Go.Proofs.YtafmjhmpnlkeiaaW.PrintLast Go.Proofs.YtafmjhmpnlkeiaaW.PrintMore
set_option linter.unusedVariables false
set_option linter.unusedSimpArgs false
/-- A map at b with these entries, a block at g as it was, and nothing below changed. -/
structure AtMap (w0 : World) (g : Nat) (o : Obj) (b : Nat) (X : World) (es : Array MapEntry) (clock : Nat) : Prop where
  hg : X.heap[g]? = some o
  hb : X.heap[b]? = some (.map es clock)
  below : Below w0.heap.size w0 X
  ne : g ≠ b
  le : w0.heap.size ≤ b
theorem upd_run {X : World} {b : Nat} {es : Array MapEntry} {clock : Nat} {k : Int} {v : Value} (hb : X.heap[b]? = some (.map es clock)) (hf : Instr.findNow (.int .u8) (.int .u8 k) es.toList 0 = some none) :
    (Instr.mapUpdate 64 (.map (some b)) (.int .u8 k) v).run Try.prog X = .ok () { X with heap := X.heap.setIfInBounds b (.map (es.push { key := .int .u8 k, val := v, born := clock }) (clock + 1)) } := by
  have hm := Try.underlying64
  have hd := Try.underlying5
  simp [Instr.mapUpdate, run_underlying hm, MapKept.run_getObj_map hb, MapKept.run_checkKey hd (k := .int .u8 k) rfl, MapKept.run_findKey hd hf, MapKept.run_setObj_map _ hb, Result.andThen]
theorem AtMap.upd {w0 : World} {g : Nat} {o : Obj} {b : Nat} {X : World} {es : Array MapEntry} {clock : Nat} (h : AtMap w0 g o b X es clock) (es' : Array MapEntry) (clock' : Nat) :
    AtMap w0 g o b { X with heap := X.heap.setIfInBounds b (.map es' clock') } es' clock' := by
  obtain ⟨h1, h2, h3, h4, h5⟩ := h
  refine ⟨?_, (MapKept.heap_set h2).1, ?_, h4, h5⟩
  · rw [← h1]; exact (MapKept.heap_set h2).2 g h4
  · exact h3.trans ⟨rfl, rfl, rfl, by simp, fun k hk => (MapKept.heap_set h2).2 k (by omega)⟩
theorem upd_step {w0 : World} {g : Nat} {o : Obj} {b : Nat} {X : World} {es : Array MapEntry} {clock : Nat} {k : Int} {v : Value} {op : Oper} {a : Act} {K : Act → World → Prop} {Q : Exit → Act → World → Prop}
    (h : AtMap w0 g o b X es clock) (hf : Instr.findNow (.int .u8) (.int .u8 k) es.toList 0 = some none)
    (hK : ∀ X', AtMap w0 g o b X' (es.push { key := .int .u8 k, val := v, born := clock }) (clock + 1) → Oper.upon Try.prog op a K Q (.ok Next.skip X')) :
    Oper.upon Try.prog op a K Q ((Sem.run Try.prog (Instr.mapUpdate 64 (.map (some b)) (.int .u8 k) v) X).andThen fun _ w' => .ok Next.skip w') := by
  have := upd_run (v := v) h.hb hf
  rw [this]
  exact hK _ (h.upd _ _)
theorem AtMap.made {w0 w1 : World} {o : Obj} (h : Below w0.heap.size w0 w1) : AtMap w0 w1.heap.size o (w1.heap.size + 1) ((w1.alloc o).alloc (.map #[] 0)).drew #[] 0 := by
  have h1 := below_alloc h o
  have h2 := below_alloc h1 (.map #[] 0)
  have hs : (w1.alloc o).heap.size = w1.heap.size + 1 := by simp
  refine ⟨?_, ?_, below_drew h2, by omega, by have := h.size; omega⟩
  · show ((w1.alloc o).alloc (.map #[] 0)).heap[w1.heap.size]? = some o
    rw [(MapKept.heap_alloc (w1.alloc o) _).2 _ (by omega)]
    exact (MapKept.heap_alloc w1 o).1
  · show ((w1.alloc o).alloc (.map #[] 0)).heap[w1.heap.size + 1]? = _
    rw [← hs]
    exact (MapKept.heap_alloc (w1.alloc o) _).1
theorem lk_run {X : World} {b : Nat} {es : Array MapEntry} {clock : Nat} {k : Int} {i : Nat} {v : Value} (hb : X.heap[b]? = some (.map es clock)) (hf : Instr.findNow (.int .u8) (.int .u8 k) es.toList 0 = some (some (i, v))) :
    (Instr.lookup 64 (.map (some b)) (.int .u8 k) true).run Try.prog X = .ok (.tuple #[v, .bool true]) X := by
  have hm := Try.underlying64
  have hd := Try.underlying5
  simp [Instr.lookup, run_underlying hm, MapKept.run_getObj_map hb, MapKept.run_checkKey hd (k := .int .u8 k) rfl, MapKept.run_findKey hd hf, Result.andThen]
end Go.Proofs.Ytafmjhmpnlkeiaa.P

namespace Go.Proofs.Ytafmjhmpnlkeiaa.P
open Go.RowKit Go.Proofs.YtafmjhmpnlkeiaaW.PrintWords Go.Proofs.YtafmjhmpnlkeiaaW.PrintLast Go.Proofs.YtafmjhmpnlkeiaaW.PrintMore
set_option linter.unusedVariables false
set_option linter.unusedSimpArgs false
/-- What is read of a kind's bytes; none: they end too early. -/
def readM (kind code : Int) (rest : List Int) : Option (Flat × List Int × List S44 × List Int) :=
  if kind = 17 then (queryP ⟨17, 0, code, 0, false, 0, 0⟩ rest).map fun p => (p.1, p.2.1, [], p.2.2)
  else if kind = 34 then (reportP rest).map fun p => (⟨34, 0, code, 0, false, 0, 0⟩, [], p.1, p.2)
  else some (⟨kind, 0, code, addrV (rest.take 4), false, 0, 0⟩, [], [], rest.drop 4)
def isKind (k : Int) : Bool := decide (k = 17) || decide (k = 18) || decide (k = 22) || decide (k = 23) || decide (k = 34)
def noneM (e : Int) : Int × Int × Int × Int × Bool × Int × Int × List Int × List S44 × Int := (0, 0, 0, 0, false, 0, 0, [], [], e)
/-- What becomes of what was read. -/
def endM (k : Nat) : Option (Flat × List Int × List S44 × List Int) → Option (Int × Int × Int × Int × Bool × Int × Int × List Int × List S44 × Int)
  | none => some (noneM 3)
  | some (m, l7, l8, r) => if r ≠ [] then some (noneM 2) else (igmp_Right.f k m.kind m.ver m.code m.group m.quiet m.robust m.every l7 l8).bind fun b => if b = true then some (m.kind, m.ver, m.code, m.group, m.quiet, m.robust, m.every, l7, l8, 0) else some (noneM 2)
/-- Decode's answer. -/
def igmp_Decode.f (k : Nat) (l : List Int) : Option (Int × Int × Int × Int × Bool × Int × Int × List Int × List S44 × Int) :=
  if okBytes l = true ∧ l.length ≤ 140737488355328 then
    (if l.length < 8 then some (noneM 3) else (sum_Whole.f l).bind fun b => if b = true then (if isKind (rd l 0) = true then endM k (readM (rd l 0) (rd l 1) (l.drop 4)) else some (noneM 2)) else some (noneM 4))
  else none
theorem igmp_Decode.mono : ∀ a0 k, LeO (igmp_Decode.f k a0) (igmp_Decode.f (k + 1) a0) := by
  intro l k
  unfold igmp_Decode.f
  refine LeO.ite (LeO.ite (LeO.refl _) (LeO.bind (LeO.refl _) (fun b => LeO.ite (LeO.ite ?_ (LeO.refl _)) (LeO.refl _)))) (LeO.refl _)
  cases readM (rd l 0) (rd l 1) (l.drop 4) with
  | none => exact LeO.refl _
  | some p => exact LeO.ite (LeO.refl _) (LeO.bind (igmp_Right.mono _ _ _ _ _ _ _ _ _ _) (fun b => LeO.refl _))
theorem below_setg {b : Nat} {X W : World} (h : Below b X W) (i : Nat) (u : Value) : Below b X (W.setCell ⟨b, i, none⟩ u) := h.setCell (p := ⟨b, i, none⟩) (Nat.le_refl _) u
theorem res_nine1 {X : World} {b : Nat} {d0 d1 d2 d3 d4 d5 d6 d7 d8 : Value} (h : X.heap[b]? = some (.cells #[d0, d1, d2, d3, d4, d5, d6, d7, d8] 27 (0, 0))) (x0 x1 x2 x3 x4 x5 x6 x7 x8 : Value) : ((((((((((X.setCell ⟨b, 0, none⟩ x0).setCell ⟨b, 1, none⟩ x1).setCell ⟨b, 2, none⟩ x2).setCell ⟨b, 3, none⟩ x3).setCell ⟨b, 4, none⟩ x4).setCell ⟨b, 5, none⟩ x5).setCell ⟨b, 6, none⟩ x6).setCell ⟨b, 7, none⟩ x7).setCell ⟨b, 8, none⟩ x8)).heap[b]? = some (.cells #[x0, x1, x2, x3, x4, x5, x6, x7, x8] 27 (0, 0)) := by
  have h0 := rd_set h 0 x0 (by simp)
  have h1 := rd_set h0 1 x1 (by simp)
  have h2 := rd_set h1 2 x2 (by simp)
  have h3 := rd_set h2 3 x3 (by simp)
  have h4 := rd_set h3 4 x4 (by simp)
  have h5 := rd_set h4 5 x5 (by simp)
  have h6 := rd_set h5 6 x6 (by simp)
  have h7 := rd_set h6 7 x7 (by simp)
  have h8 := rd_set h7 8 x8 (by simp)
  simpa using h8
theorem res_nine2 (X : World) (b : Nat) (x0 x1 x2 x3 x4 x5 x6 x7 x8 : Value) : Below b X ((((((((((X.setCell ⟨b, 0, none⟩ x0).setCell ⟨b, 1, none⟩ x1).setCell ⟨b, 2, none⟩ x2).setCell ⟨b, 3, none⟩ x3).setCell ⟨b, 4, none⟩ x4).setCell ⟨b, 5, none⟩ x5).setCell ⟨b, 6, none⟩ x6).setCell ⟨b, 7, none⟩ x7).setCell ⟨b, 8, none⟩ x8)) := by
  iterate 9 (refine below_setg ?_ _ _)
  exact Below.refl _ _
theorem res_nine3 (X : World) (b : Nat) (x0 x1 x2 x3 x4 x5 x6 x7 x8 : Value) : Kept X ((((((((((X.setCell ⟨b, 0, none⟩ x0).setCell ⟨b, 1, none⟩ x1).setCell ⟨b, 2, none⟩ x2).setCell ⟨b, 3, none⟩ x3).setCell ⟨b, 4, none⟩ x4).setCell ⟨b, 5, none⟩ x5).setCell ⟨b, 6, none⟩ x6).setCell ⟨b, 7, none⟩ x7).setCell ⟨b, 8, none⟩ x8)) (fun j => j = b) := by
  iterate 9 (refine kept_setg ?_ _ _)
  exact Kept.refl _ _
/-- Nine stores into a block of nine cells. -/
theorem res_nine {X : World} {b : Nat} {d0 d1 d2 d3 d4 d5 d6 d7 d8 : Value} (h : X.heap[b]? = some (.cells #[d0, d1, d2, d3, d4, d5, d6, d7, d8] 27 (0, 0))) (x0 x1 x2 x3 x4 x5 x6 x7 x8 : Value) : ((((((((((X.setCell ⟨b, 0, none⟩ x0).setCell ⟨b, 1, none⟩ x1).setCell ⟨b, 2, none⟩ x2).setCell ⟨b, 3, none⟩ x3).setCell ⟨b, 4, none⟩ x4).setCell ⟨b, 5, none⟩ x5).setCell ⟨b, 6, none⟩ x6).setCell ⟨b, 7, none⟩ x7).setCell ⟨b, 8, none⟩ x8)).heap[b]? = some (.cells #[x0, x1, x2, x3, x4, x5, x6, x7, x8] 27 (0, 0)) ∧ Below b X ((((((((((X.setCell ⟨b, 0, none⟩ x0).setCell ⟨b, 1, none⟩ x1).setCell ⟨b, 2, none⟩ x2).setCell ⟨b, 3, none⟩ x3).setCell ⟨b, 4, none⟩ x4).setCell ⟨b, 5, none⟩ x5).setCell ⟨b, 6, none⟩ x6).setCell ⟨b, 7, none⟩ x7).setCell ⟨b, 8, none⟩ x8)) ∧ Kept X ((((((((((X.setCell ⟨b, 0, none⟩ x0).setCell ⟨b, 1, none⟩ x1).setCell ⟨b, 2, none⟩ x2).setCell ⟨b, 3, none⟩ x3).setCell ⟨b, 4, none⟩ x4).setCell ⟨b, 5, none⟩ x5).setCell ⟨b, 6, none⟩ x6).setCell ⟨b, 7, none⟩ x7).setCell ⟨b, 8, none⟩ x8)) (fun j => j = b) :=
  ⟨res_nine1 h x0 x1 x2 x3 x4 x5 x6 x7 x8, res_nine2 X b x0 x1 x2 x3 x4 x5 x6 x7 x8, res_nine3 X b x0 x1 x2 x3 x4 x5 x6 x7 x8⟩
set_option maxHeartbeats 8000000 in
set_option maxRecDepth 100000 in
theorem dec_short (A0 : Option Addr) (c0 : Nat) (l0 : List Int) (w : World) (h8 : l0.length < 8) :
    Calls Try.prog 14 #[.slice A0 l0.length c0] w fun e w' => ∃ v0_ v1_ : Value, e = .returned (.tuple #[.agg #[.int .u8 0, .int .i64 0, .int .u8 0, .int .u32 0, .bool false, .int .u8 0, .int .u8 0, v0_, v1_], .int .i64 3]) ∧ Kd.R (Kd.int .u32) 23 w' w.heap.size (fun _ => True) v0_ [] ∧ Kd.S k44 44 w' w.heap.size (fun k_ => some k_ ≠ (v0_ : Value).ownBlock) v1_ [] ∧ Below w.heap.size w w' := by
  have hu27 := Try.underlying27
  have hd : decide ((l0.length : Int) < 8) = true := decide_eq_true (by omega)
  have HN0 : Aside0 ((w.alloc (.cells #[.int .u8 0, .int .i64 0, .int .u8 0, .int .u32 0, .bool false, .int .u8 0, .int .u8 0, .slice none 0 0, .slice none 0 0] 27)).heap[w.heap.size]? = some (.cells #[.int .u8 0, .int .i64 0, .int .u8 0, .int .u32 0, .bool false, .int .u8 0, .int .u8 0, .slice none 0 0, .slice none 0 0] 27 (0, 0))) := ⟨heap_alloc_new w _⟩
  have HB0 : Aside0 (Below w.heap.size w (w.alloc (.cells #[.int .u8 0, .int .i64 0, .int .u8 0, .int .u32 0, .bool false, .int .u8 0, .int .u8 0, .slice none 0 0, .slice none 0 0] 27))) := ⟨below_alloc (Below.refl _ _) _⟩
  go_enter Try.func14, Try.ntmps14
  go_wp2_with fail
  obtain ⟨W8, hW8⟩ : ∃ W8, w.alloc (.cells #[.int .u8 0, .int .i64 0, .int .u8 0, .int .u32 0, .bool false, .int .u8 0, .int .u8 0, .slice none 0 0, .slice none 0 0] 27) = W8 := ⟨_, rfl⟩
  rw [hW8] at HN0 HB0 ⊢
  have h8' := HN0.out
  clear hW8 hd
  have c0_ : W8.cell? ⟨w.heap.size, 0, none⟩ = some (.int .u8 0) := rd_cell h8' 0 _ rfl
  have c1_ : W8.cell? ⟨w.heap.size, 1, none⟩ = some (.int .i64 0) := rd_cell h8' 1 _ rfl
  have c2_ : W8.cell? ⟨w.heap.size, 2, none⟩ = some (.int .u8 0) := rd_cell h8' 2 _ rfl
  have c3_ : W8.cell? ⟨w.heap.size, 3, none⟩ = some (.int .u32 0) := rd_cell h8' 3 _ rfl
  have c4_ : W8.cell? ⟨w.heap.size, 4, none⟩ = some (.bool false) := rd_cell h8' 4 _ rfl
  have c5_ : W8.cell? ⟨w.heap.size, 5, none⟩ = some (.int .u8 0) := rd_cell h8' 5 _ rfl
  have c6_ : W8.cell? ⟨w.heap.size, 6, none⟩ = some (.int .u8 0) := rd_cell h8' 6 _ rfl
  have c7_ : W8.cell? ⟨w.heap.size, 7, none⟩ = some (.slice none 0 0) := rd_cell h8' 7 _ rfl
  have c8_ : W8.cell? ⟨w.heap.size, 8, none⟩ = some (.slice none 0 0) := rd_cell h8' 8 _ rfl
  refine bodyPost_ret (v := .tuple #[.agg #[.int .u8 0, .int .i64 0, .int .u8 0, .int .u32 0, .bool false, .int .u8 0, .int .u8 0, .slice none 0 0, .slice none 0 0], .int .i64 3]) ?hr ?hd ?hR
  case hd => rfl
  case hR => exact ⟨.slice none 0 0, .slice none 0 0, rfl, Kd.R_nil _ _ _ _ _, Kd.S_nil _ _ _ _ _, HB0.out⟩
  case hr =>
    rw [results_cell_tmp rfl]
    go_simp
set_option maxHeartbeats 8000000 in
set_option maxRecDepth 100000 in
theorem dec_sum (c0 : Nat) (l0 : List Int) (kd code : Int) (A0 : Option Addr) (w : World) (hr0 : Kd.C (Kd.int .u8) w A0 l0.length l0) (hc0 : l0.length ≤ c0) (h8 : 8 ≤ l0.length) (hln : l0.length ≤ 140737488355328) (hkd : rd l0 0 = kd) (hcode : rd l0 1 = code) (hwh : sum_Whole.f l0 = some false) :
    Calls Try.prog 14 #[.slice A0 l0.length c0] w fun e w' => ∃ v0_ v1_ : Value, e = .returned (.tuple #[.agg #[.int .u8 0, .int .i64 0, .int .u8 0, .int .u32 0, .bool false, .int .u8 0, .int .u8 0, v0_, v1_], .int .i64 4]) ∧ Kd.R (Kd.int .u32) 23 w' w.heap.size (fun _ => True) v0_ [] ∧ Kd.S k44 44 w' w.heap.size (fun k_ => some k_ ≠ (v0_ : Value).ownBlock) v1_ [] ∧ Below w.heap.size w w' := by
  have hu27 := Try.underlying27
  have hu44 := Try.underlying44
  have hu63 := Try.underlying63
  have hu64 := Try.underlying64
  have hmm := @run_makeMap Try.prog
  obtain ⟨ad, rfl, p0⟩ := Kd.at_int hr0 0 (by omega) (by omega)
  obtain ⟨_, e1, p1⟩ := Kd.at_int hr0 1 (by omega) (by omega)
  cases e1
  have p0b : w.cell? ad = some (.int .u8 kd) := by rw [← hkd]; simpa [Addr.add] using p0
  have p1b : w.cell? ⟨ad.block, ad.off + 1, none⟩ = some (.int .u8 code) := by rw [← hcode]; simpa [Addr.add] using p1
  have hd : decide ((l0.length : Int) < 8) = false := decide_eq_false (by omega)
  have HR0 := Aside0.mk hr0
  have HC0 := Aside0.mk hc0
  have H8 := Aside0.mk h8
  have HWH := Aside0.mk hwh
  clear hr0 hc0 p0 p1 hwh hkd hcode
  go_enter Try.func14, Try.ntmps14
  go_wp2_with fail
  obtain ⟨w0, hw0⟩ : ∃ w0, w.alloc (.cells #[.int .u8 0, .int .i64 0, .int .u8 0, .int .u32 0, .bool false, .int .u8 0, .int .u8 0, .slice none 0 0, .slice none 0 0] 27) = w0 := ⟨_, rfl⟩
  rw [hw0]
  have HB0 : Aside0 (Below w.heap.size w w0) := ⟨by rw [← hw0]; exact below_alloc (Below.refl _ _) _⟩
  have HN0 : Aside0 (w0.heap[w.heap.size]? = some (.cells #[.int .u8 0, .int .i64 0, .int .u8 0, .int .u32 0, .bool false, .int .u8 0, .int .u8 0, .slice none 0 0, .slice none 0 0] 27 (0, 0))) := ⟨by rw [← hw0]; exact heap_alloc_new w _⟩
  clear hw0
  refine (sum_Whole.calls (some ad) c0 l0 false w0 (Kd.C_below HR0.out HB0.out) HC0.out HWH.out).mono ?_
  rintro e w1 ⟨rfl, hb1⟩
  have HB1 := Aside0.mk hb1
  have HN1 : Aside0 (w1.heap[w.heap.size]? = some (.cells #[.int .u8 0, .int .i64 0, .int .u8 0, .int .u32 0, .bool false, .int .u8 0, .int .u8 0, .slice none 0 0, .slice none 0 0] 27 (0, 0))) := ⟨(hb1.block _ (Array.getElem?_eq_some_iff.1 HN0.out).1).trans HN0.out⟩
  have HBW1 := Aside0.mk (HB0.out.trans (hb1.mono HB0.out.size))
  have n0 : w1.cell? ⟨w.heap.size, 0, none⟩ = some (.int .u8 0) := rd_cell HN1.out 0 _ rfl
  have f0 := rd_frozen HN1.out 0
  have n1 : w1.cell? ⟨w.heap.size, 1, none⟩ = some (.int .i64 0) := rd_cell HN1.out 1 _ rfl
  have f1 := rd_frozen HN1.out 1
  have n2 : w1.cell? ⟨w.heap.size, 2, none⟩ = some (.int .u8 0) := rd_cell HN1.out 2 _ rfl
  have f2 := rd_frozen HN1.out 2
  have n3 : w1.cell? ⟨w.heap.size, 3, none⟩ = some (.int .u32 0) := rd_cell HN1.out 3 _ rfl
  have f3 := rd_frozen HN1.out 3
  have n4 : w1.cell? ⟨w.heap.size, 4, none⟩ = some (.bool false) := rd_cell HN1.out 4 _ rfl
  have f4 := rd_frozen HN1.out 4
  have n5 : w1.cell? ⟨w.heap.size, 5, none⟩ = some (.int .u8 0) := rd_cell HN1.out 5 _ rfl
  have f5 := rd_frozen HN1.out 5
  have n6 : w1.cell? ⟨w.heap.size, 6, none⟩ = some (.int .u8 0) := rd_cell HN1.out 6 _ rfl
  have f6 := rd_frozen HN1.out 6
  have n7 : w1.cell? ⟨w.heap.size, 7, none⟩ = some (.slice none 0 0) := rd_cell HN1.out 7 _ rfl
  have f7 := rd_frozen HN1.out 7
  have n8 : w1.cell? ⟨w.heap.size, 8, none⟩ = some (.slice none 0 0) := rd_cell HN1.out 8 _ rfl
  have f8 := rd_frozen HN1.out 8
  clear hb1 p0b p1b
  go_wp2_with fail
  obtain ⟨W8, hW8⟩ : ∃ W8, (((((((((w1.setCell ⟨w.heap.size, 0, none⟩ (.int .u8 0)).setCell ⟨w.heap.size, 1, none⟩ (.int .i64 0)).setCell ⟨w.heap.size, 2, none⟩ (.int .u8 0)).setCell ⟨w.heap.size, 3, none⟩ (.int .u32 0)).setCell ⟨w.heap.size, 4, none⟩ (.bool false)).setCell ⟨w.heap.size, 5, none⟩ (.int .u8 0)).setCell ⟨w.heap.size, 6, none⟩ (.int .u8 0)).setCell ⟨w.heap.size, 7, none⟩ (.slice none 0 0)).setCell ⟨w.heap.size, 8, none⟩ (.slice none 0 0)) = W8 := ⟨_, rfl⟩
  rw [hW8]
  obtain ⟨h8, b8, kp8⟩ := res_nine HN1.out (.int .u8 0) (.int .i64 0) (.int .u8 0) (.int .u32 0) (.bool false) (.int .u8 0) (.int .u8 0) (.slice none 0 0) (.slice none 0 0)
  rw [hW8] at h8 b8 kp8
  clear n0 f0 n1 f1 n2 f2 n3 f3 n4 f4 n5 f5 n6 f6 n7 f7 n8 f8 hW8
  have c0_ : W8.cell? ⟨w.heap.size, 0, none⟩ = some (.int .u8 0) := rd_cell h8 0 _ rfl
  have c1_ : W8.cell? ⟨w.heap.size, 1, none⟩ = some (.int .i64 0) := rd_cell h8 1 _ rfl
  have c2_ : W8.cell? ⟨w.heap.size, 2, none⟩ = some (.int .u8 0) := rd_cell h8 2 _ rfl
  have c3_ : W8.cell? ⟨w.heap.size, 3, none⟩ = some (.int .u32 0) := rd_cell h8 3 _ rfl
  have c4_ : W8.cell? ⟨w.heap.size, 4, none⟩ = some (.bool false) := rd_cell h8 4 _ rfl
  have c5_ : W8.cell? ⟨w.heap.size, 5, none⟩ = some (.int .u8 0) := rd_cell h8 5 _ rfl
  have c6_ : W8.cell? ⟨w.heap.size, 6, none⟩ = some (.int .u8 0) := rd_cell h8 6 _ rfl
  have c7_ : W8.cell? ⟨w.heap.size, 7, none⟩ = some (.slice none 0 0) := rd_cell h8 7 _ rfl
  have c8_ : W8.cell? ⟨w.heap.size, 8, none⟩ = some (.slice none 0 0) := rd_cell h8 8 _ rfl
  refine bodyPost_ret (v := .tuple #[.agg #[.int .u8 0, .int .i64 0, .int .u8 0, .int .u32 0, .bool false, .int .u8 0, .int .u8 0, .slice none 0 0, .slice none 0 0], .int .i64 4]) ?hr ?hd ?hR
  case hd => rfl
  case hR => exact ⟨.slice none 0 0, .slice none 0 0, rfl, Kd.R_nil _ _ _ _ _, Kd.S_nil _ _ _ _ _, HBW1.out.trans b8⟩
  case hr =>
    rw [results_cell_tmp rfl]
    go_simp
/-- The map's entries, the reader at g. -/
def esOf (g : Nat) : Array MapEntry := #[⟨.int .u8 17, .func (.func 35) #[.pointer (some ⟨g, 0, none⟩)] #[], 0⟩, ⟨.int .u8 18, .func (.func 36) #[.pointer (some ⟨g, 0, none⟩)] #[], 1⟩, ⟨.int .u8 22, .func (.func 36) #[.pointer (some ⟨g, 0, none⟩)] #[], 2⟩, ⟨.int .u8 23, .func (.func 36) #[.pointer (some ⟨g, 0, none⟩)] #[], 3⟩, ⟨.int .u8 34, .func (.func 37) #[.pointer (some ⟨g, 0, none⟩)] #[], 4⟩]
theorem zero1 (w : World) : (zeroValue 1).run Try.prog w = .ok .nilFunc w := by kernel_rfl
theorem lk_miss {X : World} {b : Nat} {es : Array MapEntry} {clock : Nat} {k : Int} (hb : X.heap[b]? = some (.map es clock)) (hf : Instr.findNow (.int .u8) (.int .u8 k) es.toList 0 = some none) :
    (Instr.lookup 64 (.map (some b)) (.int .u8 k) true).run Try.prog X = .ok (.tuple #[.nilFunc, .bool false]) X := by
  have hm := Try.underlying64
  have hd := Try.underlying5
  simp [Instr.lookup, run_underlying hm, MapKept.run_getObj_map hb, MapKept.run_checkKey hd (k := .int .u8 k) rfl, MapKept.run_findKey hd hf, zero1, Result.andThen]
theorem find_miss (g : Nat) (k : Int) (h : isKind k = false) : Instr.findNow (.int .u8) (.int .u8 k) (esOf g).toList 0 = some none := by
  have hk : MapKept.IsKey (.int .u8) (.int .u8 k) := rfl
  rcases MapKept.findNow_spec hk (esOf g).toList 0 (by
    intro x hx
    simp only [esOf, List.mem_cons, List.not_mem_nil, or_false] at hx
    rcases hx with rfl | rfl | rfl | rfl | rfl <;> rfl) with ⟨h1, _⟩ | ⟨j, e, h1, h2, h3⟩
  · exact h1
  · exfalso
    have hx := List.mem_of_getElem? h2
    simp only [esOf, List.mem_cons, List.not_mem_nil, or_false] at hx
    simp only [isKind, Bool.or_eq_false_iff, decide_eq_false_iff_not] at h
    rcases hx with rfl | rfl | rfl | rfl | rfl <;> (injection h3 with _ h4; omega)
set_option maxHeartbeats 8000000 in
set_option maxRecDepth 100000 in
theorem dec_kind (c0 : Nat) (l0 : List Int) (kd code : Int) (A0 : Option Addr) (w : World) (hr0 : Kd.C (Kd.int .u8) w A0 l0.length l0) (hc0 : l0.length ≤ c0) (h8 : 8 ≤ l0.length) (hln : l0.length ≤ 140737488355328) (hkd : rd l0 0 = kd) (hcode : rd l0 1 = code) (hwh : sum_Whole.f l0 = some true) (hk : isKind kd = false) :
    Calls Try.prog 14 #[.slice A0 l0.length c0] w fun e w' => ∃ v0_ v1_ : Value, e = .returned (.tuple #[.agg #[.int .u8 0, .int .i64 0, .int .u8 0, .int .u32 0, .bool false, .int .u8 0, .int .u8 0, v0_, v1_], .int .i64 2]) ∧ Kd.R (Kd.int .u32) 23 w' w.heap.size (fun _ => True) v0_ [] ∧ Kd.S k44 44 w' w.heap.size (fun k_ => some k_ ≠ (v0_ : Value).ownBlock) v1_ [] ∧ Below w.heap.size w w' := by
  have HF := Aside0.mk (fun g => find_miss g kd hk)
  clear hk
  have hu27 := Try.underlying27
  have hu44 := Try.underlying44
  have hu63 := Try.underlying63
  have hu64 := Try.underlying64
  have hmm := @run_makeMap Try.prog
  obtain ⟨ad, rfl, p0⟩ := Kd.at_int hr0 0 (by omega) (by omega)
  obtain ⟨_, e1, p1⟩ := Kd.at_int hr0 1 (by omega) (by omega)
  cases e1
  have p0b : w.cell? ad = some (.int .u8 kd) := by rw [← hkd]; simpa [Addr.add] using p0
  have p1b : w.cell? ⟨ad.block, ad.off + 1, none⟩ = some (.int .u8 code) := by rw [← hcode]; simpa [Addr.add] using p1
  have hd : decide ((l0.length : Int) < 8) = false := decide_eq_false (by omega)
  have HR0 := Aside0.mk hr0
  have HC0 := Aside0.mk hc0
  have H8 := Aside0.mk h8
  have HWH := Aside0.mk hwh
  clear hr0 hc0 p0 p1 hwh hkd hcode
  go_enter Try.func14, Try.ntmps14
  go_wp2_with fail
  obtain ⟨w0, hw0⟩ : ∃ w0, w.alloc (.cells #[.int .u8 0, .int .i64 0, .int .u8 0, .int .u32 0, .bool false, .int .u8 0, .int .u8 0, .slice none 0 0, .slice none 0 0] 27) = w0 := ⟨_, rfl⟩
  rw [hw0]
  have HB0 : Aside0 (Below w.heap.size w w0) := ⟨by rw [← hw0]; exact below_alloc (Below.refl _ _) _⟩
  have HN0 : Aside0 (w0.heap[w.heap.size]? = some (.cells #[.int .u8 0, .int .i64 0, .int .u8 0, .int .u32 0, .bool false, .int .u8 0, .int .u8 0, .slice none 0 0, .slice none 0 0] 27 (0, 0))) := ⟨by rw [← hw0]; exact heap_alloc_new w _⟩
  clear hw0
  refine (sum_Whole.calls (some ad) c0 l0 true w0 (Kd.C_below HR0.out HB0.out) HC0.out HWH.out).mono ?_
  rintro e w1 ⟨rfl, hb1⟩
  have HB1 := Aside0.mk hb1
  have HN1 : Aside0 (w1.heap[w.heap.size]? = some (.cells #[.int .u8 0, .int .i64 0, .int .u8 0, .int .u32 0, .bool false, .int .u8 0, .int .u8 0, .slice none 0 0, .slice none 0 0] 27 (0, 0))) := ⟨(hb1.block _ (Array.getElem?_eq_some_iff.1 HN0.out).1).trans HN0.out⟩
  have HBW1 := Aside0.mk (HB0.out.trans (hb1.mono HB0.out.size))
  have q0 := pw_cell_below hb1 (pw_cell_below HB0.out p0b)
  have q1 := pw_cell_below hb1 (pw_cell_below HB0.out p1b)
  have P0 := Aside0.mk (pw_cell_below HB0.out p0b)
  have hc0 := HC0.out
  clear hb1 p0b p1b
  have hne : ¬ c0 = 4 := by omega
  have hi0 : (0 : Int) < (l0.length : Int) := by omega
  have hi1 : (1 : Int) < (l0.length : Int) := by omega
  have hi4 : (4 : Int) ≤ (l0.length : Int) := by omega
  have hj0 : 0 < l0.length := by omega
  have hj1 : 1 < l0.length := by omega
  have hj4 : 4 ≤ l0.length := by omega
  go_wp2_with fail
  go_region_held3 (fun w' => w'.cell? ad = some (.int .u8 kd) ∧ w'.cell? ⟨ad.block, ad.off + 1, none⟩ = some (.int .u8 code)) (go_keep) (fail)
  try simp only [if_neg hne]
  go_wp2_with fail
  have HA0 := Aside0.mk (AtMap.made (o := rdBlock (.slice (some ⟨ad.block, ad.off + 4, none⟩) (l0.length - 4) (c0 - 4)) ⟨kd, 0, code, 0, false, 0, 0⟩ (.slice none 0 0) (.slice none 0 0) false) HB1.out)
  refine upd_step HA0.out rfl ?_
  intro X1 h1
  have HA1 := Aside0.mk h1
  clear h1
  go_wp2_with fail
  refine upd_step HA1.out rfl ?_
  intro X2 h2
  have HA2 := Aside0.mk h2
  clear h2
  go_wp2_with fail
  refine upd_step HA2.out rfl ?_
  intro X3 h3
  have HA3 := Aside0.mk h3
  clear h3
  go_wp2_with fail
  refine upd_step HA3.out rfl ?_
  intro X4 h4
  have HA4 := Aside0.mk h4
  clear h4
  go_wp2_with fail
  refine upd_step HA4.out rfl ?_
  intro X5 h5
  have q0' := pw_cell_below h5.below P0.out
  have HN5 : Aside0 (X5.heap[w.heap.size]? = some (.cells #[.int .u8 0, .int .i64 0, .int .u8 0, .int .u32 0, .bool false, .int .u8 0, .int .u8 0, .slice none 0 0, .slice none 0 0] 27 (0, 0))) := ⟨(h5.below.block _ (Array.getElem?_eq_some_iff.1 HN0.out).1).trans HN0.out⟩
  have HB5 := Aside0.mk (HB0.out.trans (h5.below.mono HB0.out.size))
  have HA5 := Aside0.mk h5
  clear h5 q0 q1
  go_wp2_with fail
  rw [lk_miss HA5.out.hb (HF.out w1.heap.size)]
  have n0 : X5.cell? ⟨w.heap.size, 0, none⟩ = some (.int .u8 0) := rd_cell HN5.out 0 _ rfl
  have f0 := rd_frozen HN5.out 0
  have n1 : X5.cell? ⟨w.heap.size, 1, none⟩ = some (.int .i64 0) := rd_cell HN5.out 1 _ rfl
  have f1 := rd_frozen HN5.out 1
  have n2 : X5.cell? ⟨w.heap.size, 2, none⟩ = some (.int .u8 0) := rd_cell HN5.out 2 _ rfl
  have f2 := rd_frozen HN5.out 2
  have n3 : X5.cell? ⟨w.heap.size, 3, none⟩ = some (.int .u32 0) := rd_cell HN5.out 3 _ rfl
  have f3 := rd_frozen HN5.out 3
  have n4 : X5.cell? ⟨w.heap.size, 4, none⟩ = some (.bool false) := rd_cell HN5.out 4 _ rfl
  have f4 := rd_frozen HN5.out 4
  have n5 : X5.cell? ⟨w.heap.size, 5, none⟩ = some (.int .u8 0) := rd_cell HN5.out 5 _ rfl
  have f5 := rd_frozen HN5.out 5
  have n6 : X5.cell? ⟨w.heap.size, 6, none⟩ = some (.int .u8 0) := rd_cell HN5.out 6 _ rfl
  have f6 := rd_frozen HN5.out 6
  have n7 : X5.cell? ⟨w.heap.size, 7, none⟩ = some (.slice none 0 0) := rd_cell HN5.out 7 _ rfl
  have f7 := rd_frozen HN5.out 7
  have n8 : X5.cell? ⟨w.heap.size, 8, none⟩ = some (.slice none 0 0) := rd_cell HN5.out 8 _ rfl
  have f8 := rd_frozen HN5.out 8
  clear q0'
  go_wp2_with fail
  obtain ⟨W8, hW8⟩ : ∃ W8, (((((((((X5.setCell ⟨w.heap.size, 0, none⟩ (.int .u8 0)).setCell ⟨w.heap.size, 1, none⟩ (.int .i64 0)).setCell ⟨w.heap.size, 2, none⟩ (.int .u8 0)).setCell ⟨w.heap.size, 3, none⟩ (.int .u32 0)).setCell ⟨w.heap.size, 4, none⟩ (.bool false)).setCell ⟨w.heap.size, 5, none⟩ (.int .u8 0)).setCell ⟨w.heap.size, 6, none⟩ (.int .u8 0)).setCell ⟨w.heap.size, 7, none⟩ (.slice none 0 0)).setCell ⟨w.heap.size, 8, none⟩ (.slice none 0 0)) = W8 := ⟨_, rfl⟩
  rw [hW8]
  obtain ⟨h8, b8, kp8⟩ := res_nine HN5.out (.int .u8 0) (.int .i64 0) (.int .u8 0) (.int .u32 0) (.bool false) (.int .u8 0) (.int .u8 0) (.slice none 0 0) (.slice none 0 0)
  rw [hW8] at h8 b8 kp8
  clear n0 f0 n1 f1 n2 f2 n3 f3 n4 f4 n5 f5 n6 f6 n7 f7 n8 f8 hW8
  have c0_ : W8.cell? ⟨w.heap.size, 0, none⟩ = some (.int .u8 0) := rd_cell h8 0 _ rfl
  have c1_ : W8.cell? ⟨w.heap.size, 1, none⟩ = some (.int .i64 0) := rd_cell h8 1 _ rfl
  have c2_ : W8.cell? ⟨w.heap.size, 2, none⟩ = some (.int .u8 0) := rd_cell h8 2 _ rfl
  have c3_ : W8.cell? ⟨w.heap.size, 3, none⟩ = some (.int .u32 0) := rd_cell h8 3 _ rfl
  have c4_ : W8.cell? ⟨w.heap.size, 4, none⟩ = some (.bool false) := rd_cell h8 4 _ rfl
  have c5_ : W8.cell? ⟨w.heap.size, 5, none⟩ = some (.int .u8 0) := rd_cell h8 5 _ rfl
  have c6_ : W8.cell? ⟨w.heap.size, 6, none⟩ = some (.int .u8 0) := rd_cell h8 6 _ rfl
  have c7_ : W8.cell? ⟨w.heap.size, 7, none⟩ = some (.slice none 0 0) := rd_cell h8 7 _ rfl
  have c8_ : W8.cell? ⟨w.heap.size, 8, none⟩ = some (.slice none 0 0) := rd_cell h8 8 _ rfl
  refine bodyPost_ret (v := .tuple #[.agg #[.int .u8 0, .int .i64 0, .int .u8 0, .int .u32 0, .bool false, .int .u8 0, .int .u8 0, .slice none 0 0, .slice none 0 0], .int .i64 2]) ?hr ?hd ?hR
  case hd => rfl
  case hR => exact ⟨.slice none 0 0, .slice none 0 0, rfl, Kd.R_nil _ _ _ _ _, Kd.S_nil _ _ _ _ _, HB5.out.trans b8⟩
  case hr =>
    rw [results_cell_tmp rfl]
    go_simp
def readPost (w0 X : World) (g : Nat) (kd code : Int) (rest : List Int) (e : Ending) (X' : World) : Prop :=
  ∃ rest' m' v7 l7 v8 l8 short', e = .returned (.tuple #[]) ∧ RdI w0 X' g rest' m' v7 v8 short' ∧ Kd.R (Kd.int .u32) 23 X' X.heap.size (fun _ => True) v7 l7 ∧ Kd.S k44 44 X' X.heap.size (fun k_ => some k_ ≠ (v7 : Value).ownBlock) v8 l8 ∧ Read (readM kd code rest) short' (m', l7, l8, rest') ∧ Kept X X' (fun j => j = g)
end Go.Proofs.Ytafmjhmpnlkeiaa.P
