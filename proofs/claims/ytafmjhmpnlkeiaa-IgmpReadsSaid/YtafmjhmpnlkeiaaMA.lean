/- A part of the proof of IgmpReads: whatever the bytes, the law returns true. Merged by a program of this work, without what is not used: Base, GChunk, GWords, GRange, F29, F31, GPure, F57, GTake, GReader, F56, GSum, GReader2, GReader3. -/
import Derived.Test.YtafmjhmpnlkeiaaChecked
import Derived.Test.YtafmjhmpnlkeiaaProg
import Derived.Test.YtafmjhmpnlkeiaaRows
import Derived.Below
import Derived.Deep.Draws
import Derived.Deep.AppendLies
import Derived.Maps.AppendAt
import Derived.OwnWalk
import Derived.Laws.BytesArg
import Derived.Laws.MakeOwn
import Derived.Laws.OwnMore
import Derived.Deep.OwnRows
import Derived.Tactics
import Derived.Lib.ConvBytes
import Derived.Laws.Slices
import Derived.WalkKit
import Derived.KernelRfl
import Derived.RowKit3
import Derived.Deep.LoopGhost
import Derived.Deep.QuietTactic
import Derived.BigQuiet
import Derived.WideLaws
import Derived.Deep.DeepCutAuto
import Derived.Deep.CutBlock
import Derived.Deep.RegionHeld3
import Derived.Laws.Rows
import Derived.Lib.AppendStr
import Derived.ArgAppend
import Derived.Laws.IdiomCopy
import Derived.OrdersHeld
import Derived.Laws.BitsLemmas
import Derived.RowKit
import Derived.RangeFuncNested
import Derived.RangeFuncBound
import Derived.RangeFuncCalls
import Derived.RangeFuncLeaves
import Derived.Shelf.Abstract
import Derived.Shelf.RegionOpen
import Derived.OwnWalkIn
import Derived.TacticsInMore
import Derived.LoopNIn
import Derived.LoopIn
import Derived.Sort.BigQuietIn
import Derived.Deep.DeepMust
import Derived.MapKept
import Derived.Deep.RegionLaw
import Derived.Lib.Hide
import Derived.Laws.ResultCell
import Derived.Laws.CopyOwn
import Derived.Deep.RegionWith
import Derived.Laws.BitsAllLaws
import Derived.ProofKit
import Derived.OpenShut
import Derived.ShutString
import Derived.ChangeOld
import Derived.SizedLaws
import Derived.Test.YtafmjhmpnlkeiaaWWords
import Derived.Test.YtafmjhmpnlkeiaaWLast
import Derived.Test.YtafmjhmpnlkeiaaWTab
import Derived.Test.YtafmjhmpnlkeiaaWQPut
import Derived.Test.YtafmjhmpnlkeiaaWApart
import Derived.Test.YtafmjhmpnlkeiaaWArr
import Derived.Test.YtafmjhmpnlkeiaaWZeros
import Derived.Test.YtafmjhmpnlkeiaaWFoot
import Derived.Test.YtafmjhmpnlkeiaaWKept
import Derived.Test.YtafmjhmpnlkeiaaWShare
import Derived.Test.YtafmjhmpnlkeiaaWN
import Derived.Test.YtafmjhmpnlkeiaaWRepsOne
import Derived.Test.YtafmjhmpnlkeiaaWGuard
import Derived.Test.YtafmjhmpnlkeiaaWNEv
import Derived.Test.YtafmjhmpnlkeiaaWMore

namespace Go.Proofs.Ytafmjhmpnlkeiaa.P
open Go.RowKit Go.Proofs.YtafmjhmpnlkeiaaW.PrintWords Go.Proofs.YtafmjhmpnlkeiaaW.PrintLast Go.Proofs.YtafmjhmpnlkeiaaW.PrintMore
attribute [local go_sem] max2_int min2_int max_two min_two max_three min_three max_four min_four   -- for this text's walks alone
set_option linter.unusedVariables false
set_option linter.unusedSimpArgs false
def errW : Option Int → Value
  | none => .nilIface
  | some c => .iface 0 (.int .i64 c)
theorem errW_none : errW none = .nilIface := rfl
theorem errW_some (c : Int) : errW (some c) = .iface 0 (.int .i64 c) := rfl
theorem info5 : (Try.prog.info? 5).map (fun i => (i.zero, i.size, i.bytes)) = some (some (.int .u8 0), 1, 1) := by kernel_rfl
theorem info23 : (Try.prog.info? 23).map (fun i => (i.zero, i.size, i.bytes)) = some (some (.int .u32 0), 1, 4) := by kernel_rfl
theorem info44 : (Try.prog.info? 44).map (fun i => (i.zero, i.size, i.bytes)) = some (some (.agg #[(.int .u8 0), (.int .u32 0), (.slice none 0 0)]), 3, 32) := by kernel_rfl
-- the values' own types
/-! #### struct type 44 -/
structure S44 where
  f0 : Int
  f1 : Int
  f2 : (List Int)
def z44 : S44 := ⟨(0 : Int), (0 : Int), ([] : List Int)⟩
def k44 : Kd S44 := Kd.iso (Kd.pair (Kd.int .u8) (Kd.pair (Kd.int .u32) (Kd.slice 23 (Kd.int .u32)))) (fun x : S44 => (x.f0, x.f1, x.f2))
theorem k44_open {w : World} {x : S44} {cs : List Value} (h : k44.K w x cs) : ∃ A2 c2, cs = [.int .u8 x.f0, .int .u32 x.f1, .slice A2 x.f2.length c2] ∧ x.f2.length ≤ c2 ∧ (Kd.int .u32).C w A2 x.f2.length x.f2 := by
  obtain ⟨_, _, rfl, rfl, ⟨_, _, rfl, rfl, ⟨A2, c2, rfl, l2, g2⟩⟩⟩ := h
  exact ⟨A2, c2, rfl, l2, g2⟩
theorem k44_mkM (w : World) (base : Nat) (ok : Nat → Prop) (x : S44) {v2 : Value} (g2 : (Kd.int .u32).R 23 w base ok v2 x.f2) : k44.M w base ok x [.int .u8 x.f0, .int .u32 x.f1, v2] := ⟨[.int .u8 x.f0], [.int .u32 x.f1, v2], rfl, rfl, ⟨[.int .u32 x.f1], [v2], rfl, rfl, ⟨v2, rfl, g2⟩⟩⟩
def rd_T44 (xs : List S44) (i : Int) : S44 := xs.getD i.toNat z44
theorem at_T44 {w : World} {A : Option Addr} {n : Nat} {xs : List S44} (h : Kd.C k44 w A n xs) (i : Int) (h0 : 0 ≤ i) (h1 : i < n) : ∃ ad A2 c2, A = some ad ∧ w.cell? (ad.add (i.toNat * 3)) = some (.int .u8 (rd_T44 xs i).f0) ∧ w.cell? ⟨(ad.add (i.toNat * 3)).block, (ad.add (i.toNat * 3)).off + 1, none⟩ = some (.int .u32 (rd_T44 xs i).f1) ∧ w.cell? ⟨(ad.add (i.toNat * 3)).block, (ad.add (i.toNat * 3)).off + 2, none⟩ = some (.slice A2 (rd_T44 xs i).f2.length c2) ∧ (rd_T44 xs i).f2.length ≤ c2 ∧ (Kd.int .u32).C w A2 (rd_T44 xs i).f2.length (rd_T44 xs i).f2 := by
  obtain ⟨ad, c, e, _, hK, hc0⟩ := Kd.C_get h z44 i h0 h1
  have hc : ∀ j u, c[j]? = some u → w.cell? (ad.add (i.toNat * 3 + j)) = some u := hc0
  obtain ⟨A2, c2, rfl, l2, g2⟩ := k44_open hK
  exact ⟨ad, A2, c2, e, hc 0 _ rfl, by rw [← add_field _ _ 1 (by omega)]; exact hc 1 _ rfl, by rw [← add_field _ _ 2 (by omega)]; exact hc 2 _ rfl, l2, g2⟩
/-! #### struct type 27 -/
end Go.Proofs.Ytafmjhmpnlkeiaa.P

namespace Go.Proofs.Ytafmjhmpnlkeiaa.P
open Go.RowKit Go.Shelf Go.Proofs.YtafmjhmpnlkeiaaW.PrintWords Go.Proofs.YtafmjhmpnlkeiaaW.PrintLast Go.Proofs.YtafmjhmpnlkeiaaW.PrintMore
attribute [local go_sem] Oper.semAt_some
attribute [local go_sem] max2_int min2_int max_two min_two max_three min_three max_four min_four
set_option linter.unusedVariables false
set_option linter.unusedSimpArgs false
set_option maxHeartbeats 1000000 in
set_option maxRecDepth 100000 in
theorem chunk59 (A0 : Option Addr) (n c : Nat) (w : World) :
    Calls Try.prog 59 #[.slice A0 n c, .int .i64 2] w fun e w' => e = .returned (.func (.func 60) #[] #[.pointer (some ⟨w.heap.size, 0, none⟩), .pointer (some ⟨w.heap.size + 1, 0, none⟩)]) ∧ w' = (w.alloc (.cells #[.slice A0 n c] 30)).alloc (.cells #[.int .i64 2] 3) := by
  go_enter Try.func59, Try.ntmps59
  go_wp2
  go_ret
  exact ⟨rfl, rfl⟩
/-- The parts come two by two: the i-th begins at 2 i. -/
abbrev Half (len : Nat) := { i : Nat // 2 * i < len }
def partLen (len i : Nat) : Nat := min 2 (len - 2 * i)
def partVal (ad : Addr) (len i : Nat) : Value := .slice (some (ad.add (2 * i))) (partLen len i) (partLen len i)
/-- What a round must leave to the iterator: its two variables. -/
def ChunkKeeps (Bs Bn : Nat) (W W' : World) : Prop := W'.cell? ⟨Bs, 0, none⟩ = W.cell? ⟨Bs, 0, none⟩ ∧ W'.cell? ⟨Bn, 0, none⟩ = W.cell? ⟨Bn, 0, none⟩
set_option maxHeartbeats 2000000 in
set_option maxRecDepth 100000 in
theorem chunk60 (l Bs Bn len cap : Nat) (ad : Addr) (hlen : len ≤ cap) (hcap : len ≤ 140737488355328) (J Jx : List (Half len) → World → Prop) (hJd : ∀ s W q, J s W → J s (World.drewN W q))
    (hY : ∀ pre x W, J pre W → pre.length < (len + 1) / 2 → YieldAt Fence.wide 1 Try.prog l #[partVal ad len x.1] W fun e W' =>
      (e = .returned (.bool true) ∧ J (pre ++ [x]) W' ∧ ChunkKeeps Bs Bn W W') ∨ (e = .returned (.bool false) ∧ Jx (pre ++ [x]) W'))
    (W : World) (hBs : W.cell? ⟨Bs, 0, none⟩ = some (.slice (some ad) len cap)) (hBn : W.cell? ⟨Bn, 0, none⟩ = some (.int .i64 2)) (h0 : J [] W) :
    CallsIn Fence.wide 2 Try.prog 60 #[.func (.yield l) #[] #[], .pointer (some ⟨Bs, 0, none⟩), .pointer (some ⟨Bn, 0, none⟩)] W fun e W' => (∃ v, e = .returned v) ∧
      ((∃ ys : List (Half len), ys.map (·.1) = List.range ((len + 1) / 2) ∧ J ys W') ∨ (∃ pre : List (Half len), Jx pre W')) := by
  refine callsIn_of_wp Try.func60 rfl trivial ?_ rfl
  simp only [Try.ntmps60, List.size_toArray, List.length_cons, List.length_nil, Nat.reduceAdd, Nat.reduceSub, Array.replicate_succ, Array.replicate_zero, List.push_toArray, List.append_toArray, List.nil_append, List.cons_append]
  gi_wp2
  gi_loopw [4] (fun v wr => ∃ (k : Nat) (ys : List (Half len)), 2 * k ≤ len + 1 ∧ v = .int .i64 (2 * k : Nat) ∧ ys.map (·.1) = List.range k ∧ J ys wr ∧ wr.cell? ⟨Bs, 0, none⟩ = some (.slice (some ad) len cap) ∧ wr.cell? ⟨Bn, 0, none⟩ = some (.int .i64 2))
    (fun v _ => len + 2 - (intOf v).toNat)
  case atStart => exact ⟨0, [], by omega, rfl, rfl, h0, hBs, hBn⟩
  case round =>
    obtain ⟨k, ys, hk, rfl, hys, hJ, hs, hn⟩ := hrel
    by_cases hlt : 2 * k < len
    · have hz : decide (((2 * k : Nat) : Int) < (len : Int)) = true := by simp; omega
      have HD := Aside0.mk hJd
      have HYS := Aside0.mk hys
      have HJ := Aside0.mk hJ
      have HY := Aside0.mk hY
      clear hJd hys hJ hY
      gi_wp2
      gi_big_quiet_th (fail)
      obtain ⟨m, hm, hm1, hm2⟩ : ∃ m, partLen len k = m ∧ m ≤ 2 ∧ 2 * k + m ≤ len := ⟨_, rfl, by unfold partLen; omega, by unfold partLen; omega⟩
      have hm0 : 1 ≤ m := by rw [← hm]; unfold partLen; omega
      have hc2 : 2 * k < cap := by omega
      have hc3 : ¬ cap = 2 * k := by omega
      have hc4 : ¬ cap - 2 * k = 0 := by omega
      have hc5 : ¬ m = 0 := by omega
      rw [show (if ((len - 2 * k : Nat) : Int) < 2 then ((len - 2 * k : Nat) : Int) else 2) = (m : Int) from by rw [← hm]; unfold partLen; split <;> omega]
      have hlen2 : ys.length = k := by have := congrArg List.length HYS.out; simpa using this
      obtain ⟨fn, tmps, assign, body, hy, hR⟩ := HY.out ys ⟨k, hlt⟩ (wr.drewN nq) (HD.out _ _ nq HJ.out) (by omega)
      simp only [partVal, hm] at hy
      have HM := Aside0.mk hm
      clear hm hlen2
      gi_wp2
      refine hR.mono ?_
      rintro e W3 (⟨rfl, hJ3, hk3⟩ | ⟨rfl, hJx3⟩)
      · have hs3 : W3.cell? ⟨Bs, 0, none⟩ = some (.slice (some ad) len cap) := hk3.1.trans hs
        have hn3 : W3.cell? ⟨Bn, 0, none⟩ = some (.int .i64 2) := hk3.2.trans hn
        have HJ3 := Aside0.mk hJ3
        clear hJ3 hk3
        gi_wp2
        go_roundw
        case rel => exact ⟨k + 1, ys ++ [⟨k, hlt⟩], by omega, by go_num, by rw [List.map_append, HYS.out, List.range_succ]; rfl, HJ3.out, hs3, hn3⟩
        case measure => simp [intOf]; omega
      · gi_wp2
        refine bodyPost_ret (results_none rfl _ _ _) rfl ?_
        exact ⟨⟨_, rfl⟩, .inr ⟨_, hJx3⟩⟩
    · have hz : decide (((2 * k : Nat) : Int) < (len : Int)) = false := by simp; omega
      gi_wp2
      go_end0
      exact ⟨⟨_, rfl⟩, .inl ⟨ys, by rw [hys]; congr 1; omega, hJ⟩⟩
end Go.Proofs.Ytafmjhmpnlkeiaa.P

namespace Go.Proofs.Ytafmjhmpnlkeiaa.P
open Go.RowKit Go.Shelf Go.Proofs.YtafmjhmpnlkeiaaW.PrintWords Go.Proofs.YtafmjhmpnlkeiaaW.PrintLast Go.Proofs.YtafmjhmpnlkeiaaW.PrintMore
attribute [local go_sem] Oper.semAt_some
set_option linter.unusedVariables false
set_option linter.unusedSimpArgs false
theorem wraps_u16 (n : Int) (h₀ : 0 ≤ n) (h₁ : n < 2 ^ 16) : IntKind.u16.wrap n = n := by
  simp [IntKind.wrap, IntKind.bits, IntKind.signed]
  omega
theorem u16_or8 {a b : Int} (h0 : 0 ≤ a) (h1 : a ≤ 255) (h2 : 0 ≤ b) (h3 : b ≤ 255) : bits .or .u16 (a * 256) b = a * 256 + b :=
  bits_join .u16 16 (by decide) wraps_u16 8 (a * 256) b (by omega) (by omega) (by omega) h2 (by omega) (by omega)
/-- A round's promise, in whatever round of whatever depth: the fence is the wide one. -/
theorem yield_any {P : Program} {l m m' l2 : Nat} {args : Array Value} {W : World} {R : Ending → World → Prop} (h : YieldAt Fence.wide m P l args W R) : YieldAt (Fence.wide.inRound l2) m' P l args W R := by
  obtain ⟨fn, tmps, assign, body, hy, hR⟩ := h
  exact ⟨fn, tmps, assign, body, hy, hR.1, fun c cs _ => hR.2 c cs (room_wide _)⟩
set_option maxHeartbeats 1000000 in
set_option maxRecDepth 100000 in
theorem words55 (A0 : Option Addr) (n c : Nat) (w : World) :
    Calls Try.prog 55 #[.slice A0 n c] w fun e w' => e = .returned (.func (.func 58) #[] #[.pointer (some ⟨w.heap.size, 0, none⟩)]) ∧ w' = w.alloc (.cells #[.slice A0 n c] 30) := by
  go_enter Try.func55, Try.ntmps55
  go_wp2
  go_ret
  exact ⟨rfl, rfl⟩
/-- The i-th word. -/
def wordAt (l : List Int) (i : Nat) : Int := l.getD (2 * i) 0 * 256 + (if 2 * i + 1 < l.length then l.getD (2 * i + 1) 0 else 0)
def wordsOf (l : List Int) : List Int := (List.range ((l.length + 1) / 2)).map (wordAt l)
def bytesOk (l : List Int) : Prop := ∀ j, 0 ≤ l.getD j 0 ∧ l.getD j 0 ≤ 255
theorem chunk_stops (W3 : World) (Bs Bn len cap : Nat) (ad : Addr) (hlen : len ≤ cap) (hcap : len ≤ 140737488355328) (hs : Bs < W3.heap.size) (hn : Bn < W3.heap.size)
    (hBs : W3.cell? ⟨Bs, 0, none⟩ = some (.slice (some ad) len cap)) (hBn : W3.cell? ⟨Bn, 0, none⟩ = some (.int .i64 2)) :
    SeqStopsK Fence.wide 2 Try.prog 60 #[.pointer (some ⟨Bs, 0, none⟩), .pointer (some ⟨Bn, 0, none⟩)] (fun x : Half len => #[partVal ad len x.1]) (ChunkKeeps Bs Bn) (fun ys => ys.map (·.1) = List.range ((len + 1) / 2)) (fun _ => True) ((len + 1) / 2) W3 := by
  intro l J Jx W hW hJ hJx hY h0
  refine (chunk60 l Bs Bn len cap ad hlen hcap J Jx (fun s W q h => ?_) hY W ((hW.cell (p := ⟨Bs, 0, none⟩) hs).trans hBs) ((hW.cell (p := ⟨Bn, 0, none⟩) hn).trans hBn) h0).mono ?_
  · exact hJ s W _ none h (grown_of_below (pw_below_drewN (Below.refl _ _) q) none) (fun r e => by cases e)
  · rintro e W' ⟨hv, ⟨ys, h1, h2⟩ | ⟨pre, h2⟩⟩
    · exact ⟨hv, .inl ⟨ys, h1, h2⟩⟩
    · exact ⟨hv, .inr ⟨pre, trivial, h2⟩⟩
theorem new_cell (W : World) (v : Value) (t : TypeId) : (W.alloc (.cells #[v] t)).cell? ⟨W.heap.size, 0, none⟩ = some v := World.cell?_alloc_at _ _ _ _ rfl
theorem new_cells3 (W : World) (u v x : Value) (a b c : TypeId) : (((W.alloc (.cells #[u] a)).alloc (.cells #[v] b)).alloc (.cells #[x] c)).cell? ⟨W.heap.size, 0, none⟩ = some u ∧ (((W.alloc (.cells #[u] a)).alloc (.cells #[v] b)).alloc (.cells #[x] c)).cell? ⟨W.heap.size + 1, 0, none⟩ = some v ∧ (((W.alloc (.cells #[u] a)).alloc (.cells #[v] b)).alloc (.cells #[x] c)).cell? ⟨W.heap.size + 2, 0, none⟩ = some x := by
  refine ⟨pw_cell_below (below_alloc (below_alloc (Below.refl _ _) _) _) (new_cell W u a), ?_, ?_⟩
  · have h := new_cell (W.alloc (.cells #[u] a)) v b
    rw [World.size_alloc] at h
    exact pw_cell_below (below_alloc (Below.refl _ _) _) h
  · have h := new_cell ((W.alloc (.cells #[u] a)).alloc (.cells #[v] b)) x c
    rw [World.size_alloc, World.size_alloc] at h
    exact h
theorem cell_put_other (X : World) (q : Nat) (o' : Obj) (p : Addr) (h : p.block ≠ q) : (X.putObj q o').cell? p = X.cell? p := World.cell?_of_block (w := X) (World.putObj_heap_other h)
theorem _root_.Go.World.grownBy.weaken_some {w w' : World} (h : w.grownBy w' none) (b : Nat) : w.grownBy w' (some b) := ⟨h.os, h.tape, h.output, h.size, fun i hi _ => h.block i hi (by simp)⟩
set_option maxHeartbeats 2000000 in
set_option maxRecDepth 100000 in
theorem words58 (l So B0 Bw cap : Nat) (ad : Addr) (l0 : List Int) (hlen : l0.length ≤ cap) (hcap : l0.length ≤ 140737488355328) (hb : bytesOk l0) (J : List Int → World → Prop)
    (hJ : ∀ s W W', J s W → Below B0 W W' → J s W')
    (hY : ∀ pre x W, J pre W → YieldAt Fence.wide 1 Try.prog l #[.int .u16 x] W fun e W' => e = .returned (.bool true) ∧ J (pre ++ [x]) W' ∧ W.grownBy W' (some So))
    (W : World) (hB0 : B0 ≤ W.heap.size) (hso : So < B0) (hBw : W.cell? ⟨Bw, 0, none⟩ = some (.slice (some ad) l0.length cap)) (hne : ad.block ≠ So) (hc : ∀ j, j < l0.length → W.cell? (ad.add j) = some (.int .u8 (l0.getD j 0))) (h0 : J [] W) :
    CallsIn Fence.wide 3 Try.prog 58 #[.func (.yield l) #[] #[], .pointer (some ⟨Bw, 0, none⟩)] W fun e W' => (∃ v, e = .returned v) ∧ J (wordsOf l0) W' ∧ W.grownBy W' (some So) := by
  refine callsIn_of_wp_marks Try.func58 rfl trivial ?_ rfl
  simp only [Try.ntmps58, List.size_toArray, List.length_cons, List.length_nil, Nat.reduceAdd, Nat.reduceSub, Array.replicate_succ, Array.replicate_zero, List.push_toArray, List.append_toArray, List.nil_append, List.cons_append]
  have HJ := Aside0.mk hJ
  have HY := Aside0.mk hY
  clear hJ hY
  have hBw2 : ∀ o, (W.alloc o).cell? ⟨Bw, 0, none⟩ = some (.slice (some ad) l0.length cap) := fun o => pw_cell_below (below_alloc (Below.refl _ W) o) hBw
  gi_wp2
  refine ⟨trivial, ?_⟩
  refine (callsIn_wide.2 (chunk59 _ _ _ _)).mono ?_
  rintro e w' ⟨rfl, rfl⟩
  gi_wp2
  obtain ⟨W3, hW3⟩ : ∃ W3, ((W.alloc (.cells #[.func (.yield l) #[] #[]] 89)).alloc (.cells #[.slice (some ad) l0.length cap] 30)).alloc (.cells #[.int .i64 2] 3) = W3 := ⟨_, rfl⟩
  have hbl : Below W.heap.size W W3 := by rw [← hW3]; exact ((((Below.refl _ W).alloc (Nat.le_refl _) _).alloc (by simp) _).alloc (by simp; omega) _)
  have hsz : W3.heap.size = W.heap.size + 3 := by rw [← hW3]; simp
  obtain ⟨c1, c2, c3⟩ := new_cells3 W (.func (.yield l) #[] #[]) (.slice (some ad) l0.length cap) (.int .i64 2) 89 30 3
  rw [hW3] at c1 c2 c3 ⊢
  have hgr : W.grownBy W3 none := grown_of_below hbl none
  refine wpIn_rangeFunc_ownG rfl (by omega) (gf := 60) (lb := #[.pointer (some ⟨W.heap.size + 1, 0, none⟩), .pointer (some ⟨W.heap.size + 2, 0, none⟩)]) rfl trivial (enters_of Try.func60 (by kernel_rfl) rfl)
    (chunk_stops W3 (W.heap.size + 1) (W.heap.size + 2) l0.length cap ad hlen hcap (by omega) (by omega) c2 c3)
    (fun h k => ⟨k.1.trans h.1, k.2.trans h.2⟩)
    (fun X q o o' hq h1 h2 _ => ⟨cell_put_other X q o' _ (by simp; omega), cell_put_other X q o' _ (by simp; omega)⟩)
    (Below.refl _ _) (fun _ => rfl)
    (fun pre X => J (pre.map fun x => wordAt l0 x.1) X ∧ W.grownBy X (some So) ∧ W3.heap.size ≤ X.heap.size ∧ X.cell? ⟨W.heap.size, 0, none⟩ = some (.func (.yield l) #[] #[]))
    (fun _ _ _ => False)
    ?own (fun _ _ _ _ _ h _ _ => h) ?start
    (fun x => { tmps := #[.func (.yield l) #[] #[], .pointer (some ⟨Bw, 0, none⟩), .pointer (some ⟨W.heap.size, 0, none⟩), partVal ad l0.length x.1, undef, .slice (some ad) l0.length cap, .func (.func 60) #[] #[.pointer (some ⟨W.heap.size + 1, 0, none⟩), .pointer (some ⟨W.heap.size + 1 + 1, 0, none⟩)], partVal ad l0.length x.1, undef, undef, undef, undef, undef, undef, undef, undef, undef, undef, undef, undef, undef, undef, undef, undef, undef, undef], defers := [] }) ?assign ?body ?done ?stop
  case own =>
    rintro s X Y row ⟨hj, hg, hs, hy⟩ hgr2 hrow
    have hr : ∀ k, row = some k → W3.heap.size ≤ k := fun k e => (hrow k e).1
    have hbl2 : Below W3.heap.size X Y := (Below.refl _ X).grown hgr2 hs hr
    exact ⟨HJ.out _ _ _ hj (hbl2.mono (by omega)), ⟨hbl2.os.trans hg.os, hbl2.tape.trans hg.tape, hbl2.output.trans hg.output, Nat.le_trans hg.size hbl2.size, fun k hk hne => (hbl2.block k (by omega)).trans (hg.block k hk hne)⟩, Nat.le_trans hs hbl2.size, (hbl2.cell (p := ⟨W.heap.size, 0, none⟩) (by simp; omega)).trans hy⟩
  case start => exact ⟨HJ.out _ _ _ h0 (hbl.mono hB0), hgr.weaken_some So, Nat.le_refl _, c1⟩
  case assign =>
    intro l2 x X K hK
    gi_wp2
    exact hK
  case body =>
    rintro l2 pre ⟨i, hi⟩ X ⟨hj, hg, hs, hy⟩ hlen
    have hx0 : X.cell? (ad.add (2 * i)) = some (.int .u8 (l0.getD (2 * i) 0)) := hg.cell (hc _ hi) (by rw [add_block]; simpa using hne)
    have r0 := hb (2 * i)
    have HB := Aside0.mk hb
    by_cases h2 : 2 * i + 1 < l0.length
    · have e2 : partVal ad l0.length i = .slice (some (ad.add (2 * i))) 2 2 := by
        unfold partVal
        rw [show partLen l0.length i = 2 from by unfold partLen; omega]
      have hx1 : X.cell? ⟨(ad.add (2 * i)).block, (ad.add (2 * i)).off + 1, none⟩ = some (.int .u8 (l0.getD (2 * i + 1) 0)) := by
        rw [← add_field _ _ 1 (by omega)]
        exact hg.cell (hc _ h2) (by rw [add_block]; simpa using hne)
      have r1 := hb (2 * i + 1)
      clear hb
      simp only [e2]
      clear e2
      obtain ⟨a, ha⟩ : ∃ a, l0.getD (2 * i) 0 = a := ⟨_, rfl⟩
      obtain ⟨b, hb2⟩ : ∃ b, l0.getD (2 * i + 1) 0 = b := ⟨_, rfl⟩
      rw [ha] at hx0 r0
      rw [hb2] at hx1 r1
      have Ha := Aside0.mk ha
      have Hb := Aside0.mk hb2
      clear ha hb2
      have HJX := Aside0.mk hj
      clear hj
      have hor := Aside0.mk (u16_or8 r0.1 r0.2 r1.1 r1.2)
      obtain ⟨fn, tmps, assign, body, hyy, hR⟩ := yield_any (l2 := l2) (m' := 0) (HY.out _ (bits .or .u16 (a * 256) b) X HJX.out)
      gi_wp2
      refine hR.mono ?_
      rintro e X3 ⟨rfl, hJ3, hk3⟩
      have HJ3 := Aside0.mk hJ3
      clear hJ3
      gi_wp2
      refine ⟨KeepsFrom.of_grownBy hk3 (fun q e => by cases e; omega), ⟨hk3.cell_far _ (by simp; omega) (by simp; omega), hk3.cell_far _ (by simp; omega) (by simp; omega)⟩, ?_, hg.trans hk3, Nat.le_trans hs hk3.size, hk3.cell hy (by simp; omega)⟩
      have h3 := HJ3.out
      rw [hor.out] at h3
      have hw : wordAt l0 i = a * 256 + b := by unfold wordAt; rw [if_pos h2, Ha.out, Hb.out]
      rw [List.map_append]
      show J (_ ++ [wordAt l0 i]) X3
      rw [hw]
      exact h3
    · have e2 : partVal ad l0.length i = .slice (some (ad.add (2 * i))) 1 1 := by
        unfold partVal
        rw [show partLen l0.length i = 1 from by unfold partLen; omega]
      clear hb
      simp only [e2]
      clear e2
      obtain ⟨a, ha⟩ : ∃ a, l0.getD (2 * i) 0 = a := ⟨_, rfl⟩
      rw [ha] at hx0 r0
      have Ha := Aside0.mk ha
      clear ha
      have HJX := Aside0.mk hj
      clear hj
      obtain ⟨fn, tmps, assign, body, hyy, hR⟩ := yield_any (l2 := l2) (m' := 0) (HY.out _ (a * 256) X HJX.out)
      gi_wp2
      refine hR.mono ?_
      rintro e X3 ⟨rfl, hJ3, hk3⟩
      have HJ3 := Aside0.mk hJ3
      clear hJ3
      gi_wp2
      refine ⟨KeepsFrom.of_grownBy hk3 (fun q e => by cases e; omega), ⟨hk3.cell_far _ (by simp; omega) (by simp; omega), hk3.cell_far _ (by simp; omega) (by simp; omega)⟩, ?_, hg.trans hk3, Nat.le_trans hs hk3.size, hk3.cell hy (by simp; omega)⟩
      have h3 := HJ3.out
      have hw : wordAt l0 i = a * 256 := by unfold wordAt; rw [if_neg h2, Ha.out]; omega
      rw [List.map_append]
      show J (_ ++ [wordAt l0 i]) X3
      rw [hw]
      exact h3
  case done =>
    rintro D ys X hD hS ⟨hj, hg, hs, hy⟩ hK
    gi_wp2
    refine ⟨by simp, .inl ⟨_, _, rfl, run_takeDeferred hK, ?_⟩⟩
    have hbl2 : Below W3.heap.size X (X.putObj D (.deferred none)) := belowK_b (w := W3) (Nat.le_refl _) X D _ _ hD hK rfl rfl
    refine ⟨_, results_none rfl _ _ _, ⟨_, rfl⟩, HJ.out _ _ _ ?_ (hbl2.mono (by omega)), ⟨hbl2.os.trans hg.os, hbl2.tape.trans hg.tape, hbl2.output.trans hg.output, Nat.le_trans hg.size hbl2.size, fun k hk hne => (hbl2.block k (by omega)).trans (hg.block k hk hne)⟩⟩
    have e : ys.map (fun x => wordAt l0 x.1) = wordsOf l0 := by
      unfold wordsOf
      rw [← hS, List.map_map]
      rfl
    rw [← e]
    exact hj
  case stop => exact fun _ _ _ _ _ _ h _ => h.elim
end Go.Proofs.Ytafmjhmpnlkeiaa.P

namespace Go.Proofs.Ytafmjhmpnlkeiaa.P
open Go.RowKit
set_option linter.unusedVariables false
set_option linter.unusedSimpArgs false
theorem one_cell {X : World} {b : Nat} {v : Value} {t : TypeId} (h : X.heap[b]? = some (.cells #[v] t (0, 0))) : X.cell? ⟨b, 0, none⟩ = some v ∧ X.frozen? ⟨b, 0, none⟩ = false := by
  constructor
  · simp [World.cell?, h]
  · simp [World.frozen?, h]
theorem one_set {X : World} {b : Nat} {v : Value} {t : TypeId} (h : X.heap[b]? = some (.cells #[v] t (0, 0))) (u : Value) : (X.setCell ⟨b, 0, none⟩ u).heap[b]? = some (.cells #[u] t (0, 0)) := by
  simp [World.setCell, Array.getElem?_modify, h]
theorem grown_set (X : World) (a : Addr) (u : Value) : X.grownBy (X.setCell a u) (some a.block) := ⟨rfl, rfl, rfl, by simp [World.setCell], fun i _ hne => Below.heap_setCell X a u i (fun e => hne (by rw [e]))⟩
/-- The loop's record. -/
def loopRec (fn : FuncId) (tmps : Array Value) (ps : Array Tmp) (assign body : Code) (D : Nat) (st : LoopState) (pe : Option Code) : Loop := { state := st, pending := pe, fn, tmps, params := ps, assign, body, defers := D }
section
variable {P : Program} {g : Operand} {ps : Array Tmp} {assign body : Code} {Q : Exit → Act → World → Prop} {a : Act} {w : World} {n : Nat}
theorem range_wide {gf : Nat} {lb : Array Value} (hg : a.eval g = .func (.func gf) #[] lb) (eg : ∀ (args : Array Value) (w : World), (callFunc gf args).run P w = .ok (.enter gf args) w) (hn : 1 ≤ n)
    (h : ∀ (fn : FuncId) (W : World), W.heap[w.heap.size + 1]? = some (.loop (loopRec fn a.tmps ps assign body w.heap.size .ready none)) → W.heap[w.heap.size]? = some (.deferred (some [])) → Below w.heap.size w W → W.heap.size = w.heap.size + 2 →
      CallsIn Fence.wide (n - 1) P gf (#[.func (.yield (w.heap.size + 1)) #[] #[]] ++ lb) W (rangePost Fence.wide n P (w.heap.size + 1) Q { a with defers := [{ target := .collected w.heap.size, args := #[] }] ++ a.defers })) :
    (Code.rangeFunc g ps assign body).wpIn Fence.wide n P Q a w := by
  refine wpIn_rangeFunc ?_
  intro fn hfn
  obtain ⟨W, hW⟩ : ∃ W, (w.alloc (.deferred (some []))).alloc (.loop (loopRec fn a.tmps ps assign body w.heap.size .ready none)) = W := ⟨_, rfl⟩
  have hL1 : W.heap[w.heap.size + 1]? = some (.loop (loopRec fn a.tmps ps assign body w.heap.size .ready none)) := by
    rw [← hW]; have := World.alloc_heap_new (w.alloc (.deferred (some []))) (.loop (loopRec fn a.tmps ps assign body w.heap.size .ready none)); rwa [World.size_alloc] at this
  have hK1 : W.heap[w.heap.size]? = some (.deferred (some [])) := by
    rw [← hW]; exact (Below.heap_alloc _ _ _ (by simp)).trans (World.alloc_heap_new w _)
  have hbl : Below w.heap.size w W := by rw [← hW]; exact (((Below.refl _ w).alloc (Nat.le_refl _) _).alloc (by simp) _)
  have hsz : W.heap.size = w.heap.size + 2 := by rw [← hW]; simp
  refine ⟨w.heap.size + 1, [{ target := .collected w.heap.size, args := #[] }], W, { target := .fn (.func gf) lb, args := #[.func (.yield (w.heap.size + 1)) #[] #[]] }, W, gf,
    #[.func (.yield (w.heap.size + 1)) #[] #[]] ++ lb, W, ?_, ?_, ?_, ?_, fun _ => hn, ?_⟩
  · rw [← hW]; exact run_enterLoop_outer _ _ _ _ _
  · simp only [resolve, hg]
    simp [go_sem]
  · intro f' hf'; trivial
  · simp [invoke, go_sem, eg]
  · exact h fn W hL1 hK1 hbl hsz
theorem round_wide {l m D : Nat} {fn : FuncId} {tmps args : Array Value} {X : World} {R : Ending → World → Prop} (hl : X.heap[l]? = some (.loop (loopRec fn tmps ps assign body D .ready none))) (hs : args.size = ps.size)
    (h : assign.wpIn (Fence.wide.inRound l) m P (Exit.then (fun a₁ w₁ => w₁.heap[l]? = some (.loop (loopRec fn tmps ps assign body D .ready none)) ∧ body.wpIn (Fence.wide.inRound l) m P (roundPost P l R) a₁ (w₁.putObj l (.loop (loopRec fn tmps ps assign body D .busy none)))) (fun _ _ _ => False))
      { tmps := (ps.zip args).foldl (fun t (p, v) => t.setIfInBounds p v) tmps, defers := [] } X) :
    YieldAt Fence.wide m P l args X R := by
  have hy := run_yield (P := P) (args := args) hl hs
  refine ⟨fn, _, assign, body, hy, roundIn_of_wpIn trivial (wpIn_mono h ?_)⟩
  intro e a₁ w₁ hp
  cases e with
  | normal => exact ⟨_, run_beginRound hp.1 rfl, hp.2⟩
  | ret => exact hp.elim
  | exit id => exact hp.elim
  | goto t => exact hp.elim
  | panic ch => exact hp.elim
  | outgrown => exact hp.elim
/-- A round that goes on. -/
theorem round_goes {l D : Nat} {fn : FuncId} {tmps : Array Value} {X : World} {R : Ending → World → Prop} {a₁ : Act} (hl : X.heap[l]? = some (.loop (loopRec fn tmps ps assign body D .busy none)))
    (h : R (.returned (.bool true)) (X.putObj l (.loop (loopRec fn tmps ps assign body D .ready none)))) : roundPost P l R .normal a₁ X :=
  ⟨_, _, run_endRound none hl, h⟩
/-- The iterator has returned, all rounds have gone on. -/
theorem range_ends {l D : Nat} {fn : FuncId} {tmps : Array Value} {X : World} {v : Value} {a₁ : Act} (hl : X.heap[l]? = some (.loop (loopRec fn tmps ps assign body D .ready none)))
    (h : Q .normal a₁ (X.putObj l (.loop (loopRec fn tmps ps assign body D .exhausted none)))) : rangePost Fence.wide n P l Q a₁ (.returned v) X :=
  ⟨none, _, run_endLoop hl (by simp [loopRec]), h⟩
/-- What a round is asked for. -/
def RoundLaw (P : Program) (ps : Array Tmp) (assign body : Code) (tmps : Array Value) (l m : Nat) (ready : Loop) : Prop :=
  ∀ (args : Array Value) (X : World) (R : Ending → World → Prop), X.heap[l]? = some (.loop ready) → args.size = ps.size →
    (∀ rb : Loop, (∀ (a : Act) (X3 : World), X3.heap[l]? = some (.loop rb) → (∀ X4, X4.heap[l]? = some (.loop ready) → X3.grownBy X4 (some l) → X4.heap.size = X3.heap.size → R (.returned (.bool true)) X4) → roundPost P l R .normal a X3) →
      assign.wpIn (Fence.wide.inRound l) m P (Exit.then (fun a₁ w₁ => w₁.heap[l]? = some (.loop ready) ∧ ∀ X2, X2.heap[l]? = some (.loop rb) → w₁.grownBy X2 (some l) → X2.heap.size = w₁.heap.size → body.wpIn (Fence.wide.inRound l) m P (roundPost P l R) a₁ X2) (fun _ _ _ => False))
        { tmps := (ps.zip args).foldl (fun t (p, v) => t.setIfInBounds p v) tmps, defers := [] } X) →
    YieldAt Fence.wide m P l args X R
/-- What the statement's end is asked for. -/
def EndLaw (P : Program) (n : Nat) (Q : Exit → Act → World → Prop) (l : Nat) (ready : Loop) : Prop :=
  ∀ (X : World) (v : Value) (a₁ : Act), X.heap[l]? = some (.loop ready) → (∀ X2, X.grownBy X2 (some l) → X2.heap.size = X.heap.size → Q .normal a₁ X2) → rangePost Fence.wide n P l Q a₁ (.returned v) X
theorem put_heap {X : World} {l : Nat} {o : Obj} (o' : Obj) (h : X.heap[l]? = some o) : (X.putObj l o').heap[l]? = some o' ∧ X.grownBy (X.putObj l o') (some l) ∧ (X.putObj l o').heap.size = X.heap.size :=
  ⟨World.putObj_heap_same (Array.getElem?_eq_some_iff.1 h).1, grownBy_putObj' X l o', by simp [World.putObj]⟩
theorem range_law {gf : Nat} {lb : Array Value} (hg : a.eval g = .func (.func gf) #[] lb) (eg : ∀ (args : Array Value) (w : World), (callFunc gf args).run P w = .ok (.enter gf args) w) (hn : 1 ≤ n)
    (h : ∀ (l D : Nat) (ready : Loop) (W : World), l = w.heap.size + 1 → D = w.heap.size → W.heap[l]? = some (.loop ready) → W.heap[D]? = some (.deferred (some [])) → Below w.heap.size w W → W.heap.size = w.heap.size + 2 →
      (∀ m, RoundLaw P ps assign body a.tmps l m ready) → EndLaw P n Q l ready →
      CallsIn Fence.wide (n - 1) P gf (#[.func (.yield l) #[] #[]] ++ lb) W (rangePost Fence.wide n P l Q { a with defers := [{ target := .collected D, args := #[] }] ++ a.defers })) :
    (Code.rangeFunc g ps assign body).wpIn Fence.wide n P Q a w := by
  refine range_wide hg eg hn ?_
  intro fn W hL hK hb hs
  refine h _ _ _ W rfl rfl hL hK hb hs ?_ ?_
  · intro m args X R hl hsz hh
    refine round_wide hl hsz (wpIn_mono (hh (loopRec fn a.tmps ps assign body w.heap.size .busy none) (fun a' X3 h3 h4 => ?_)) ?_)
    · obtain ⟨p1, p2, p3⟩ := put_heap (.loop (loopRec fn a.tmps ps assign body w.heap.size .ready none)) h3
      exact round_goes h3 (h4 _ p1 p2 p3)
    · intro e a₁ w₁ hp
      cases e with
      | normal =>
        obtain ⟨p1, p2, p3⟩ := put_heap (.loop (loopRec fn a.tmps ps assign body w.heap.size .busy none)) hp.1
        exact ⟨hp.1, hp.2 _ p1 p2 p3⟩
      | ret => exact hp.elim
      | exit id => exact hp.elim
      | goto t => exact hp.elim
      | panic ch => exact hp.elim
      | outgrown => exact hp.elim
  · intro X v a₁ hl hh
    obtain ⟨p1, p2, p3⟩ := put_heap (.loop (loopRec fn a.tmps ps assign body w.heap.size .exhausted none)) hl
    exact range_ends hl (hh _ p2 p3)
end
end Go.Proofs.Ytafmjhmpnlkeiaa.P

namespace Go.Proofs.Ytafmjhmpnlkeiaa.P
open Go.RowKit Go.Proofs.YtafmjhmpnlkeiaaW.PrintWords Go.Proofs.YtafmjhmpnlkeiaaW.PrintLast Go.Proofs.YtafmjhmpnlkeiaaW.PrintMore
attribute [local go_sem] max2_int min2_int max_two min_two max_three min_three max_four min_four   -- for this text's walks alone
set_option linter.unusedVariables false
set_option linter.unusedSimpArgs false
/-! ### api_Addr: function 29 -/
def api_Addr.l0 : Nat → List Int → List Int → Int → Int → Option (Bool)
  | 0, _, _, _, _ => none
  | k + 1, x0, x1, x12, x13 => if x13 < x12 then (if 0 ≤ x13 then (if x13 < (x0.length : Int) then (if x13 < (x1.length : Int) then (if (rd x0 x13) = (rd x1 x13) then (api_Addr.l0 k x0 x1 x12 (wrap64 (x13 + 1))) else (some false)) else (none)) else (none)) else (none)) else (some true)
def api_Addr.f (k : Nat) (l0 : List Int) (l1 : List Int) : Option (Bool) := if (l0.length : Int) = (l1.length : Int) then (api_Addr.l0 k l0 l1 (l0.length : Int) 0) else (some false)
theorem api_Addr.mono_l : ∀ k, (∀ y0 y1 y2 y3, LeO (api_Addr.l0 k y0 y1 y2 y3) (api_Addr.l0 (k + 1) y0 y1 y2 y3))
  | 0 => fun _ _ _ _ r h => by simp [api_Addr.l0] at h
  | k + 1 => by
    have ih0 := api_Addr.mono_l k
    · intro y0 y1 y2 y3
      unfold api_Addr.l0
      repeat' first
      | (with_reducible exact ih0 _ _ _ _)
      | (with_reducible exact LeO.refl _)
      | (with_reducible exact LeO.none _)
      | (with_reducible refine LeO.ite ?_ ?_)
      | (with_reducible refine LeO.bind ?_ (fun _ => ?_))
      | exact ih0 _ _ _ _
      | exact LeO.none _
      | refine LeO.ite ?_ ?_
      | refine LeO.bind ?_ (fun _ => ?_)
theorem api_Addr.mono : ∀ a0 a1 k, LeO (api_Addr.f k a0 a1) (api_Addr.f (k + 1) a0 a1) := by
  intro a0 a1 k
  have ih0 := api_Addr.mono_l k
  unfold api_Addr.f
  repeat' first
      | (with_reducible exact ih0 _ _ _ _)
      | (with_reducible exact LeO.refl _)
      | (with_reducible exact LeO.none _)
      | (with_reducible refine LeO.ite ?_ ?_)
      | (with_reducible refine LeO.bind ?_ (fun _ => ?_))
      | exact ih0 _ _ _ _
      | exact LeO.none _
      | refine LeO.ite ?_ ?_
      | refine LeO.bind ?_ (fun _ => ?_)
set_option maxHeartbeats 8000000 in
set_option maxRecDepth 100000 in
theorem api_Addr.calls (k : Nat) (A0 : Option Addr) (c0 : Nat) (l0 : List Int) (A1 : Option Addr) (c1 : Nat) (l1 : List Int) (r : Bool) (w : World) (hr0 : Kd.C (Kd.int .u32) w A0 l0.length l0) (hc0 : l0.length ≤ c0) (hr1 : Kd.C (Kd.int .u32) w A1 l1.length l1) (hc1 : l1.length ≤ c1) (h : api_Addr.f k l0 l1 = some r) :
    Calls Try.prog 29 #[.slice A0 l0.length c0, .slice A1 l1.length c1] w fun e w' => e = .returned (.bool r) ∧ Drawn0 w w' := by
  have HR0 := Aside0.mk hr0
  have HC0 := Aside0.mk hc0
  clear hr0 hc0
  have HR1 := Aside0.mk hr1
  have HC1 := Aside0.mk hc1
  clear hr1 hc1
  have H : (if (l0.length : Int) = (l1.length : Int) then (api_Addr.l0 k l0 l1 (l0.length : Int) 0) else (some false)) = some r := h
  clear h
  by_cases c3 : (l0.length : Int) = (l1.length : Int)
  · rw [if_pos c3] at H
    have c3b0 : ((l0.length : Int) == (l1.length : Int)) = true := beq_iff_eq.mpr c3
    have c3b1 : ((l0.length : Int) != (l1.length : Int)) = false := bne_eq_false_iff_eq.mpr c3
    have c3b2 : (l0.length == l1.length) = true := by first | simpa using c3 | (simp at c3 ⊢; omega)
    clear c3
    have H' := Aside0.mk H
    clear H
    go_enter Try.func29, Try.ntmps29
    go_wp2
    repeat (go_quiet (fail); try go_wp2)
    go_loopg [13] k (fun kq v13 w' => ∃ (x13_1 : Int), v13 = .int .i64 x13_1 ∧ Aside0 (api_Addr.l0 kq l0 l1 (l0.length : Int) x13_1 = some r) ∧ Aside0 (kq ≤ k) ∧ Drawn0 w w')
    case atStart => exact ⟨(0), (by first | rfl | (simp; done) | (simp [*]; done)), H', ⟨Nat.le_refl _⟩, by repeat (first | exact Drawn0.refl _ | apply Drawn0.step)⟩
    case round =>
      clear H'
      try clear c1
      try clear c2
      try clear p2
      try clear c3
      try clear c3b0
      try clear c3b1
      try clear c3b2
      obtain ⟨x13_1, rfl, HA, HK1, ⟨m1, rfl⟩⟩ := hrel
      cases gk with
      | zero => exact absurd HA.out (by simp [api_Addr.l0])
      | succ k1 =>
        have H := HA.out
        clear HA
        simp only [api_Addr.l0] at H
        by_cases c4 : x13_1 < (l0.length : Int)
        · rw [if_pos c4] at H
          have c4b0 : decide (x13_1 < (l0.length : Int)) = true := decide_eq_true c4
          clear c4
          by_cases c5 : 0 ≤ x13_1
          · rw [if_pos c5] at H
            have c5b0 : decide (0 ≤ x13_1) = true := decide_eq_true c5
            clear c5
            by_cases c6 : x13_1 < (l0.length : Int)
            · rw [if_pos c6] at H
              have c6b0 : decide (x13_1 < (l0.length : Int)) = true := decide_eq_true c6
              clear c6
              by_cases c7 : x13_1 < (l1.length : Int)
              · rw [if_pos c7] at H
                have c7b0 : decide (x13_1 < (l1.length : Int)) = true := decide_eq_true c7
                clear c7
                by_cases c8 : (rd l0 x13_1) = (rd l1 x13_1)
                · rw [if_pos c8] at H
                  have c8b0 : ((rd l0 x13_1) == (rd l1 x13_1)) = true := beq_iff_eq.mpr c8
                  have c8b1 : ((rd l0 x13_1) != (rd l1 x13_1)) = false := bne_eq_false_iff_eq.mpr c8
                  clear c8
                  have H' := Aside0.mk H
                  clear H
                  have p101 : 0 ≤ (x13_1 : Int) := of_decide_eq_true (by first | (with_reducible assumption) | assumption)
                  have q101 : x13_1 < (l0.length : Int) := of_decide_eq_true (by first | (with_reducible assumption) | assumption)
                  obtain ⟨ad101, e101, hx101_0⟩ := Kd.at_int HR0.out x13_1 p101 q101
                  cases e101
                  replace p101 := eq_true p101
                  replace q101 := eq_true q101
                  have p102 : 0 ≤ (x13_1 : Int) := of_decide_eq_true (by first | (with_reducible assumption) | assumption)
                  have q102 : x13_1 < (l1.length : Int) := of_decide_eq_true (by first | (with_reducible assumption) | assumption)
                  obtain ⟨ad102, e102, hx102_0⟩ := Kd.at_int HR1.out x13_1 p102 q102
                  cases e102
                  replace p102 := eq_true p102
                  replace q102 := eq_true q102
                  go_wp2
                  repeat (go_quiet (fail); try go_wp2)
                  go_roundg k1
                  case measure => have := HK1.out; omega
                  case rel => exact ⟨(wrap64 (x13_1 + 1)), (by first | rfl | (simp; done) | (simp [*]; done)), H', ⟨by have := HK1.out; omega⟩, by repeat (first | exact Drawn0.refl _ | apply Drawn0.step)⟩
                · rw [if_neg c8] at H
                  have c8b0 : ((rd l0 x13_1) == (rd l1 x13_1)) = false := beq_eq_false_iff_ne.mpr c8
                  have c8b1 : ((rd l0 x13_1) != (rd l1 x13_1)) = true := bne_iff_ne.mpr c8
                  obtain rfl := Option.some.inj H
                  have p101 : 0 ≤ (x13_1 : Int) := of_decide_eq_true (by first | (with_reducible assumption) | assumption)
                  have q101 : x13_1 < (l0.length : Int) := of_decide_eq_true (by first | (with_reducible assumption) | assumption)
                  obtain ⟨ad101, e101, hx101_0⟩ := Kd.at_int HR0.out x13_1 p101 q101
                  cases e101
                  replace p101 := eq_true p101
                  replace q101 := eq_true q101
                  have p102 : 0 ≤ (x13_1 : Int) := of_decide_eq_true (by first | (with_reducible assumption) | assumption)
                  have q102 : x13_1 < (l1.length : Int) := of_decide_eq_true (by first | (with_reducible assumption) | assumption)
                  obtain ⟨ad102, e102, hx102_0⟩ := Kd.at_int HR1.out x13_1 p102 q102
                  cases e102
                  replace p102 := eq_true p102
                  replace q102 := eq_true q102
                  go_wp2
                  repeat (go_quiet (fail); try go_wp2)
                  go_ret
                  exact ⟨by first | rfl | (simp; done) | (simp [*]; done), by repeat (first | exact Drawn0.refl _ | apply Drawn0.step)⟩
              · rw [if_neg c7] at H
                exact absurd H (by simp)
            · rw [if_neg c6] at H
              exact absurd H (by simp)
          · rw [if_neg c5] at H
            exact absurd H (by simp)
        · rw [if_neg c4] at H
          have c4b0 : decide (x13_1 < (l0.length : Int)) = false := decide_eq_false c4
          clear c4
          obtain rfl := Option.some.inj H
          go_wp2
          repeat (go_quiet (fail); try go_wp2)
          go_ret
          exact ⟨by first | rfl | (simp; done) | (simp [*]; done), by repeat (first | exact Drawn0.refl _ | apply Drawn0.step)⟩
  · rw [if_neg c3] at H
    have c3b0 : ((l0.length : Int) == (l1.length : Int)) = false := beq_eq_false_iff_ne.mpr c3
    have c3b1 : ((l0.length : Int) != (l1.length : Int)) = true := bne_iff_ne.mpr c3
    have c3b2 : (l0.length == l1.length) = false := by first | simpa using c3 | (simp at c3 ⊢; omega)
    obtain rfl := Option.some.inj H
    go_enter Try.func29, Try.ntmps29
    go_wp2
    repeat (go_quiet (fail); try go_wp2)
    go_ret
    exact ⟨by first | rfl | (simp; done) | (simp [*]; done), by repeat (first | exact Drawn0.refl _ | apply Drawn0.step)⟩
end Go.Proofs.Ytafmjhmpnlkeiaa.P

namespace Go.Proofs.Ytafmjhmpnlkeiaa.P
open Go.RowKit Go.Proofs.YtafmjhmpnlkeiaaW.PrintWords Go.Proofs.YtafmjhmpnlkeiaaW.PrintLast Go.Proofs.YtafmjhmpnlkeiaaW.PrintMore
attribute [local go_sem] max2_int min2_int max_two min_two max_three min_three max_four min_four   -- for this text's walks alone
set_option linter.unusedVariables false
set_option linter.unusedSimpArgs false
/-! ### igmp_sameRec: function 31 -/
def igmp_sameRec.f (k : Nat) (a0_0 : Int) (a0_1 : Int) (l0_2 : List Int) (a1_0 : Int) (a1_1 : Int) (l1_2 : List Int) : Option (Bool) := if a0_0 = a1_0 then (if a0_1 = a1_1 then ((api_Addr.f k l0_2 l1_2).bind fun t105 => (some t105)) else (some false)) else (some false)
set_option maxHeartbeats 8000000 in
set_option maxRecDepth 100000 in
theorem igmp_sameRec.calls (k : Nat) (a0_0 : Int) (a0_1 : Int) (A0_2 : Option Addr) (c0_2 : Nat) (l0_2 : List Int) (a1_0 : Int) (a1_1 : Int) (A1_2 : Option Addr) (c1_2 : Nat) (l1_2 : List Int) (r : Bool) (w : World) (hr0_2 : Kd.C (Kd.int .u32) w A0_2 l0_2.length l0_2) (hc0_2 : l0_2.length ≤ c0_2) (hr1_2 : Kd.C (Kd.int .u32) w A1_2 l1_2.length l1_2) (hc1_2 : l1_2.length ≤ c1_2) (h : igmp_sameRec.f k a0_0 a0_1 l0_2 a1_0 a1_1 l1_2 = some r) :
    Calls Try.prog 31 #[.agg #[.int .u8 a0_0, .int .u32 a0_1, .slice A0_2 l0_2.length c0_2], .agg #[.int .u8 a1_0, .int .u32 a1_1, .slice A1_2 l1_2.length c1_2]] w fun e w' => e = .returned (.bool r) ∧ Below w.heap.size w w' := by
  have hu44 := Try.underlying44
  have HR0_2 := Aside0.mk hr0_2
  have HC0_2 := Aside0.mk hc0_2
  clear hr0_2 hc0_2
  have HR1_2 := Aside0.mk hr1_2
  have HC1_2 := Aside0.mk hc1_2
  clear hr1_2 hc1_2
  have HB := Aside0.mk (Below.refl w.heap.size w)
  have H : (if a0_0 = a1_0 then (if a0_1 = a1_1 then ((api_Addr.f k l0_2 l1_2).bind fun t105 => (some t105)) else (some false)) else (some false)) = some r := h
  clear h
  by_cases c3 : a0_0 = a1_0
  · rw [if_pos c3] at H
    have c3b0 : (a0_0 == a1_0) = true := beq_iff_eq.mpr c3
    have c3b1 : (a0_0 != a1_0) = false := bne_eq_false_iff_eq.mpr c3
    clear c3
    by_cases c4 : a0_1 = a1_1
    · rw [if_pos c4] at H
      have c4b0 : (a0_1 == a1_1) = true := beq_iff_eq.mpr c4
      have c4b1 : (a0_1 != a1_1) = false := bne_eq_false_iff_eq.mpr c4
      clear c4
      replace H := Option.bind_eq_some_iff.mp H
      obtain ⟨t105, A50, H⟩ := H
      replace H : (some t105) = some r := H
      have A5 := Aside0.mk A50
      clear A50
      obtain rfl := Option.some.inj H
      go_enter Try.func31, Try.ntmps31
      go_wp2_with (first | ((with_reducible refine gate_dst (N := 2) rfl ?_); refine box_event ?hg (N := 2) ?hd (cs := #[.int .u8 a0_0, .int .u32 a0_1, .slice A0_2 l0_2.length c0_2]) (t := 44) ?hr ?_; (case hd => rfl); (case hg => rfl); (case hr => first | (go_simp; done) | (go_simp; rfl)); intro gb103 hg w6 hbox hb; have n0_ := Aside0.mk (below_step (by repeat (first | (with_reducible first | exact HB.out | apply below_alloc | apply pw_below_drewN | apply below_drew1) | exact HB.out)) hb); have n1_ := Aside0.mk (hbox); have n2_ := Aside0.mk ((by rw [hg]; exact (below_size (by repeat (first | (with_reducible first | exact HB.out | apply below_alloc | apply pw_below_drewN | apply below_drew1) | exact HB.out))) : w.heap.size ≤ gb103)); have n3_ := Aside0.mk ((by rw [hg]; exact (below_size (by repeat (first | (with_reducible first | exact HB.out | apply below_alloc | apply pw_below_drewN | apply below_drew1) | exact HB.out))) : w.heap.size ≤ gb103)); clear HB; have HB := n0_; have BK103 := n1_; have GW103 := n2_; have GE103 := n3_; clear n0_ n1_ n2_ n3_; clear hb hbox hg) | ((with_reducible refine gate_dst (N := 3) rfl ?_); refine box_event ?hg (N := 3) ?hd (cs := #[.int .u8 a1_0, .int .u32 a1_1, .slice A1_2 l1_2.length c1_2]) (t := 44) ?hr ?_; (case hd => rfl); (case hg => rfl); (case hr => first | (go_simp; done) | (go_simp; rfl)); intro gb104 hg w7 hbox hb; have n0_ := Aside0.mk (blk_below (g := gb103) (o := .cells #[.int .u8 a0_0, .int .u32 a0_1, .slice A0_2 l0_2.length c0_2] 44 (0, 0)) (by (with_reducible repeat (first | refine blk_drewN ?_ _ | refine blk_drew ?_ | refine blk_alloc ?_ _)); exact BK103.out) hb); have n1_ := Aside0.mk (below_step (by repeat (first | (with_reducible first | exact HB.out | apply below_alloc | apply pw_below_drewN | apply below_drew1 | refine below_set ?_ GE103.out) | exact HB.out)) hb); have n2_ := Aside0.mk (hbox); have n3_ := Aside0.mk ((by rw [hg]; exact (below_size (by repeat (first | (with_reducible first | exact HB.out | apply below_alloc | apply pw_below_drewN | apply below_drew1 | refine below_set ?_ GE103.out) | exact HB.out))) : w.heap.size ≤ gb104)); have n4_ := Aside0.mk ((by rw [hg]; exact (below_size (by repeat (first | (with_reducible first | exact HB.out | apply below_alloc | apply pw_below_drewN | apply below_drew1 | refine below_set ?_ GE103.out) | exact HB.out))) : w.heap.size ≤ gb104)); have n5_ := Aside0.mk ((by rw [hg]; exact Nat.ne_of_lt (blk_lt (g := gb103) (o := .cells #[.int .u8 a0_0, .int .u32 a0_1, .slice A0_2 l0_2.length c0_2] 44 (0, 0)) (by (with_reducible repeat (first | refine blk_drewN ?_ _ | refine blk_drew ?_ | refine blk_alloc ?_ _)); exact BK103.out)) : gb103 ≠ gb104)); have n6_ := Aside0.mk ((by rw [hg]; exact Nat.ne_of_gt (blk_lt (g := gb103) (o := .cells #[.int .u8 a0_0, .int .u32 a0_1, .slice A0_2 l0_2.length c0_2] 44 (0, 0)) (by (with_reducible repeat (first | refine blk_drewN ?_ _ | refine blk_drew ?_ | refine blk_alloc ?_ _)); exact BK103.out)) : gb104 ≠ gb103)); clear BK103; clear HB; have BK103 := n0_; have HB := n1_; have BK104 := n2_; have GW104 := n3_; have GE104 := n4_; have NB103_104 := n5_; have NB104_103 := n6_; clear n0_ n1_ n2_ n3_ n4_ n5_ n6_; clear hb hbox hg; have hnb8 := NB103_104.out; have hnc8 := NB104_103.out; have hcz9_0 : w7.cell? ⟨gb103, 0, none⟩ = some (.int .u8 a0_0) := (blk_cell BK103.out 0).trans rfl; have hcz9_1 : w7.cell? ⟨gb103, 1, none⟩ = some (.int .u32 a0_1) := (blk_cell BK103.out 1).trans rfl; have hcz9_2 : w7.cell? ⟨gb103, 2, none⟩ = some (.slice A0_2 l0_2.length c0_2) := (blk_cell BK103.out 2).trans rfl; have hfz9_0 := blk_frozen BK103.out 0; have hfz9_1 := blk_frozen BK103.out 1; have hfz9_2 := blk_frozen BK103.out 2; have hcz10_0 : w7.cell? ⟨gb104, 0, none⟩ = some (.int .u8 a1_0) := (blk_cell BK104.out 0).trans rfl; have hcz10_1 : w7.cell? ⟨gb104, 1, none⟩ = some (.int .u32 a1_1) := (blk_cell BK104.out 1).trans rfl; have hcz10_2 : w7.cell? ⟨gb104, 2, none⟩ = some (.slice A1_2 l1_2.length c1_2) := (blk_cell BK104.out 2).trans rfl; have hfz10_0 := blk_frozen BK104.out 0; have hfz10_1 := blk_frozen BK104.out 1; have hfz10_2 := blk_frozen BK104.out 2) | (go_at_call 29; (with_reducible refine (api_Addr.calls k _ _ l0_2 _ _ l1_2 t105 _ ?side1 ?side2 ?side3 ?side4 A5.out).mono ?_); (case side1 => repeat (first | exact (Kd.C_below HR0_2.out HB.out) | (with_reducible refine Kd.C_alloc ?_ _) | (with_reducible refine Kd.C_drewN ?_ _) | (with_reducible refine Kd.C_drew ?_))); (case side2 => exact HC0_2.out); (case side3 => repeat (first | exact (Kd.C_below HR1_2.out HB.out) | (with_reducible refine Kd.C_alloc ?_ _) | (with_reducible refine Kd.C_drewN ?_ _) | (with_reducible refine Kd.C_drew ?_))); (case side4 => exact HC1_2.out); rintro e w' ⟨rfl, ⟨nd, rfl⟩⟩))
      go_ret
      exact ⟨by first | rfl | (simp [errW_none, errW_some] <;> rfl) | (simp [*, errW_none, errW_some] <;> rfl), by repeat (first | (with_reducible first | exact HB.out | apply below_alloc | apply pw_below_drewN | apply below_drew1 | refine below_set ?_ GE103.out | refine below_set ?_ GE104.out) | exact HB.out)⟩
    · rw [if_neg c4] at H
      have c4b0 : (a0_1 == a1_1) = false := beq_eq_false_iff_ne.mpr c4
      have c4b1 : (a0_1 != a1_1) = true := bne_iff_ne.mpr c4
      obtain rfl := Option.some.inj H
      go_enter Try.func31, Try.ntmps31
      go_wp2_with (first | ((with_reducible refine gate_dst (N := 2) rfl ?_); refine box_event ?hg (N := 2) ?hd (cs := #[.int .u8 a0_0, .int .u32 a0_1, .slice A0_2 l0_2.length c0_2]) (t := 44) ?hr ?_; (case hd => rfl); (case hg => rfl); (case hr => first | (go_simp; done) | (go_simp; rfl)); intro gb103 hg w11 hbox hb; have n0_ := Aside0.mk (below_step (by repeat (first | (with_reducible first | exact HB.out | apply below_alloc | apply pw_below_drewN | apply below_drew1) | exact HB.out)) hb); have n1_ := Aside0.mk (hbox); have n2_ := Aside0.mk ((by rw [hg]; exact (below_size (by repeat (first | (with_reducible first | exact HB.out | apply below_alloc | apply pw_below_drewN | apply below_drew1) | exact HB.out))) : w.heap.size ≤ gb103)); have n3_ := Aside0.mk ((by rw [hg]; exact (below_size (by repeat (first | (with_reducible first | exact HB.out | apply below_alloc | apply pw_below_drewN | apply below_drew1) | exact HB.out))) : w.heap.size ≤ gb103)); clear HB; have HB := n0_; have BK103 := n1_; have GW103 := n2_; have GE103 := n3_; clear n0_ n1_ n2_ n3_; clear hb hbox hg) | ((with_reducible refine gate_dst (N := 3) rfl ?_); refine box_event ?hg (N := 3) ?hd (cs := #[.int .u8 a1_0, .int .u32 a1_1, .slice A1_2 l1_2.length c1_2]) (t := 44) ?hr ?_; (case hd => rfl); (case hg => rfl); (case hr => first | (go_simp; done) | (go_simp; rfl)); intro gb104 hg w12 hbox hb; have n0_ := Aside0.mk (blk_below (g := gb103) (o := .cells #[.int .u8 a0_0, .int .u32 a0_1, .slice A0_2 l0_2.length c0_2] 44 (0, 0)) (by (with_reducible repeat (first | refine blk_drewN ?_ _ | refine blk_drew ?_ | refine blk_alloc ?_ _)); exact BK103.out) hb); have n1_ := Aside0.mk (below_step (by repeat (first | (with_reducible first | exact HB.out | apply below_alloc | apply pw_below_drewN | apply below_drew1 | refine below_set ?_ GE103.out) | exact HB.out)) hb); have n2_ := Aside0.mk (hbox); have n3_ := Aside0.mk ((by rw [hg]; exact (below_size (by repeat (first | (with_reducible first | exact HB.out | apply below_alloc | apply pw_below_drewN | apply below_drew1 | refine below_set ?_ GE103.out) | exact HB.out))) : w.heap.size ≤ gb104)); have n4_ := Aside0.mk ((by rw [hg]; exact (below_size (by repeat (first | (with_reducible first | exact HB.out | apply below_alloc | apply pw_below_drewN | apply below_drew1 | refine below_set ?_ GE103.out) | exact HB.out))) : w.heap.size ≤ gb104)); have n5_ := Aside0.mk ((by rw [hg]; exact Nat.ne_of_lt (blk_lt (g := gb103) (o := .cells #[.int .u8 a0_0, .int .u32 a0_1, .slice A0_2 l0_2.length c0_2] 44 (0, 0)) (by (with_reducible repeat (first | refine blk_drewN ?_ _ | refine blk_drew ?_ | refine blk_alloc ?_ _)); exact BK103.out)) : gb103 ≠ gb104)); have n6_ := Aside0.mk ((by rw [hg]; exact Nat.ne_of_gt (blk_lt (g := gb103) (o := .cells #[.int .u8 a0_0, .int .u32 a0_1, .slice A0_2 l0_2.length c0_2] 44 (0, 0)) (by (with_reducible repeat (first | refine blk_drewN ?_ _ | refine blk_drew ?_ | refine blk_alloc ?_ _)); exact BK103.out)) : gb104 ≠ gb103)); clear BK103; clear HB; have BK103 := n0_; have HB := n1_; have BK104 := n2_; have GW104 := n3_; have GE104 := n4_; have NB103_104 := n5_; have NB104_103 := n6_; clear n0_ n1_ n2_ n3_ n4_ n5_ n6_; clear hb hbox hg; have hnb13 := NB103_104.out; have hnc13 := NB104_103.out; have hcz14_0 : w12.cell? ⟨gb103, 0, none⟩ = some (.int .u8 a0_0) := (blk_cell BK103.out 0).trans rfl; have hcz14_1 : w12.cell? ⟨gb103, 1, none⟩ = some (.int .u32 a0_1) := (blk_cell BK103.out 1).trans rfl; have hcz14_2 : w12.cell? ⟨gb103, 2, none⟩ = some (.slice A0_2 l0_2.length c0_2) := (blk_cell BK103.out 2).trans rfl; have hfz14_0 := blk_frozen BK103.out 0; have hfz14_1 := blk_frozen BK103.out 1; have hfz14_2 := blk_frozen BK103.out 2; have hcz15_0 : w12.cell? ⟨gb104, 0, none⟩ = some (.int .u8 a1_0) := (blk_cell BK104.out 0).trans rfl; have hcz15_1 : w12.cell? ⟨gb104, 1, none⟩ = some (.int .u32 a1_1) := (blk_cell BK104.out 1).trans rfl; have hcz15_2 : w12.cell? ⟨gb104, 2, none⟩ = some (.slice A1_2 l1_2.length c1_2) := (blk_cell BK104.out 2).trans rfl; have hfz15_0 := blk_frozen BK104.out 0; have hfz15_1 := blk_frozen BK104.out 1; have hfz15_2 := blk_frozen BK104.out 2))
      go_ret
      exact ⟨by first | rfl | (simp [errW_none, errW_some] <;> rfl) | (simp [*, errW_none, errW_some] <;> rfl), by repeat (first | (with_reducible first | exact HB.out | apply below_alloc | apply pw_below_drewN | apply below_drew1 | refine below_set ?_ GE103.out | refine below_set ?_ GE104.out) | exact HB.out)⟩
  · rw [if_neg c3] at H
    have c3b0 : (a0_0 == a1_0) = false := beq_eq_false_iff_ne.mpr c3
    have c3b1 : (a0_0 != a1_0) = true := bne_iff_ne.mpr c3
    obtain rfl := Option.some.inj H
    go_enter Try.func31, Try.ntmps31
    go_wp2_with (first | ((with_reducible refine gate_dst (N := 2) rfl ?_); refine box_event ?hg (N := 2) ?hd (cs := #[.int .u8 a0_0, .int .u32 a0_1, .slice A0_2 l0_2.length c0_2]) (t := 44) ?hr ?_; (case hd => rfl); (case hg => rfl); (case hr => first | (go_simp; done) | (go_simp; rfl)); intro gb103 hg w16 hbox hb; have n0_ := Aside0.mk (below_step (by repeat (first | (with_reducible first | exact HB.out | apply below_alloc | apply pw_below_drewN | apply below_drew1) | exact HB.out)) hb); have n1_ := Aside0.mk (hbox); have n2_ := Aside0.mk ((by rw [hg]; exact (below_size (by repeat (first | (with_reducible first | exact HB.out | apply below_alloc | apply pw_below_drewN | apply below_drew1) | exact HB.out))) : w.heap.size ≤ gb103)); have n3_ := Aside0.mk ((by rw [hg]; exact (below_size (by repeat (first | (with_reducible first | exact HB.out | apply below_alloc | apply pw_below_drewN | apply below_drew1) | exact HB.out))) : w.heap.size ≤ gb103)); clear HB; have HB := n0_; have BK103 := n1_; have GW103 := n2_; have GE103 := n3_; clear n0_ n1_ n2_ n3_; clear hb hbox hg) | ((with_reducible refine gate_dst (N := 3) rfl ?_); refine box_event ?hg (N := 3) ?hd (cs := #[.int .u8 a1_0, .int .u32 a1_1, .slice A1_2 l1_2.length c1_2]) (t := 44) ?hr ?_; (case hd => rfl); (case hg => rfl); (case hr => first | (go_simp; done) | (go_simp; rfl)); intro gb104 hg w17 hbox hb; have n0_ := Aside0.mk (blk_below (g := gb103) (o := .cells #[.int .u8 a0_0, .int .u32 a0_1, .slice A0_2 l0_2.length c0_2] 44 (0, 0)) (by (with_reducible repeat (first | refine blk_drewN ?_ _ | refine blk_drew ?_ | refine blk_alloc ?_ _)); exact BK103.out) hb); have n1_ := Aside0.mk (below_step (by repeat (first | (with_reducible first | exact HB.out | apply below_alloc | apply pw_below_drewN | apply below_drew1 | refine below_set ?_ GE103.out) | exact HB.out)) hb); have n2_ := Aside0.mk (hbox); have n3_ := Aside0.mk ((by rw [hg]; exact (below_size (by repeat (first | (with_reducible first | exact HB.out | apply below_alloc | apply pw_below_drewN | apply below_drew1 | refine below_set ?_ GE103.out) | exact HB.out))) : w.heap.size ≤ gb104)); have n4_ := Aside0.mk ((by rw [hg]; exact (below_size (by repeat (first | (with_reducible first | exact HB.out | apply below_alloc | apply pw_below_drewN | apply below_drew1 | refine below_set ?_ GE103.out) | exact HB.out))) : w.heap.size ≤ gb104)); have n5_ := Aside0.mk ((by rw [hg]; exact Nat.ne_of_lt (blk_lt (g := gb103) (o := .cells #[.int .u8 a0_0, .int .u32 a0_1, .slice A0_2 l0_2.length c0_2] 44 (0, 0)) (by (with_reducible repeat (first | refine blk_drewN ?_ _ | refine blk_drew ?_ | refine blk_alloc ?_ _)); exact BK103.out)) : gb103 ≠ gb104)); have n6_ := Aside0.mk ((by rw [hg]; exact Nat.ne_of_gt (blk_lt (g := gb103) (o := .cells #[.int .u8 a0_0, .int .u32 a0_1, .slice A0_2 l0_2.length c0_2] 44 (0, 0)) (by (with_reducible repeat (first | refine blk_drewN ?_ _ | refine blk_drew ?_ | refine blk_alloc ?_ _)); exact BK103.out)) : gb104 ≠ gb103)); clear BK103; clear HB; have BK103 := n0_; have HB := n1_; have BK104 := n2_; have GW104 := n3_; have GE104 := n4_; have NB103_104 := n5_; have NB104_103 := n6_; clear n0_ n1_ n2_ n3_ n4_ n5_ n6_; clear hb hbox hg; have hnb18 := NB103_104.out; have hnc18 := NB104_103.out; have hcz19_0 : w17.cell? ⟨gb103, 0, none⟩ = some (.int .u8 a0_0) := (blk_cell BK103.out 0).trans rfl; have hcz19_1 : w17.cell? ⟨gb103, 1, none⟩ = some (.int .u32 a0_1) := (blk_cell BK103.out 1).trans rfl; have hcz19_2 : w17.cell? ⟨gb103, 2, none⟩ = some (.slice A0_2 l0_2.length c0_2) := (blk_cell BK103.out 2).trans rfl; have hfz19_0 := blk_frozen BK103.out 0; have hfz19_1 := blk_frozen BK103.out 1; have hfz19_2 := blk_frozen BK103.out 2; have hcz20_0 : w17.cell? ⟨gb104, 0, none⟩ = some (.int .u8 a1_0) := (blk_cell BK104.out 0).trans rfl; have hcz20_1 : w17.cell? ⟨gb104, 1, none⟩ = some (.int .u32 a1_1) := (blk_cell BK104.out 1).trans rfl; have hcz20_2 : w17.cell? ⟨gb104, 2, none⟩ = some (.slice A1_2 l1_2.length c1_2) := (blk_cell BK104.out 2).trans rfl; have hfz20_0 := blk_frozen BK104.out 0; have hfz20_1 := blk_frozen BK104.out 1; have hfz20_2 := blk_frozen BK104.out 2))
    go_ret
    exact ⟨by first | rfl | (simp [errW_none, errW_some] <;> rfl) | (simp [*, errW_none, errW_some] <;> rfl), by repeat (first | (with_reducible first | exact HB.out | apply below_alloc | apply pw_below_drewN | apply below_drew1 | refine below_set ?_ GE103.out | refine below_set ?_ GE104.out) | exact HB.out)⟩
end Go.Proofs.Ytafmjhmpnlkeiaa.P

namespace Go.Proofs.Ytafmjhmpnlkeiaa.P
open Go.RowKit Go.Proofs.YtafmjhmpnlkeiaaW.PrintWords Go.Proofs.YtafmjhmpnlkeiaaW.PrintLast Go.Proofs.YtafmjhmpnlkeiaaW.PrintMore
set_option linter.unusedVariables false
set_option linter.unusedSimpArgs false
theorem rd_eq (l : List Int) (x : Nat) (h : x < l.length) : rd l (x : Int) = l[x] := by
  unfold rd
  simp [h]
theorem wrap_succ (x : Nat) (n : Nat) (h : x < n) (hn : n ≤ 9223372036854775807) : wrap64 ((x : Int) + 1) = ((x + 1 : Nat) : Int) := by
  unfold wrap64
  omega
theorem drop_eq_iff {α : Type} (a b : List α) (x : Nat) (ha : x < a.length) (hb : x < b.length) : (a.drop x = b.drop x) ↔ (a[x] = b[x] ∧ a.drop (x + 1) = b.drop (x + 1)) := by
  rw [List.drop_eq_getElem_cons ha, List.drop_eq_getElem_cons hb, List.cons.injEq]
/-- slices.Equal over rows of one length. -/
theorem equal_l0 (a b : List Int) (hl : a.length = b.length) (hn : a.length ≤ 9223372036854775807) (d : Nat) :
    ∀ (k x : Nat), a.length - x = d → x ≤ a.length → d < k → api_Addr.l0 k a b (a.length : Int) (x : Int) = some (decide (a.drop x = b.drop x)) := by
  induction d with
  | zero =>
    intro k x hd hx hk
    obtain ⟨k, rfl⟩ : ∃ m, k = m + 1 := ⟨k - 1, by omega⟩
    simp only [api_Addr.l0]
    rw [if_neg (by omega), List.drop_of_length_le (by omega), List.drop_of_length_le (by omega)]
    simp
  | succ d ih =>
    intro k x hd hx hk
    obtain ⟨k, rfl⟩ : ∃ m, k = m + 1 := ⟨k - 1, by omega⟩
    have h1 : x < a.length := by omega
    have h2 : x < b.length := by omega
    simp only [api_Addr.l0]
    rw [if_pos (by omega), if_pos (by omega), if_pos (by omega), if_pos (by omega), rd_eq a x h1, rd_eq b x h2, wrap_succ x a.length h1 hn]
    by_cases e : a[x] = b[x]
    · rw [if_pos e, ih k (x + 1) (by omega) (by omega) (by omega)]
      congr 1
      simp only [decide_eq_decide]
      rw [drop_eq_iff a b x h1 h2]
      simp [e]
    · rw [if_neg e]
      congr 1
      symm
      simp only [decide_eq_false_iff_not]
      rw [drop_eq_iff a b x h1 h2]
      simp [e]
theorem equal_f (a b : List Int) (hn : a.length ≤ 9223372036854775807) (k : Nat) (hk : a.length < k) : api_Addr.f k a b = some (decide (a = b)) := by
  unfold api_Addr.f
  by_cases hl : a.length = b.length
  · rw [if_pos (by omega)]
    have h := equal_l0 a b hl hn a.length k 0 (by omega) (by omega) hk
    simpa using h
  · rw [if_neg (by omega)]
    congr 1
    symm
    simp only [decide_eq_false_iff_not]
    intro e
    exact hl (by rw [e])
/-- Two records are the same. -/
def recEq (a b : S44) : Bool := decide (a.f0 = b.f0 ∧ a.f1 = b.f1 ∧ a.f2 = b.f2)
theorem recEq_iff (a b : S44) : recEq a b = true ↔ a = b := by
  unfold recEq
  cases a
  cases b
  simp
theorem sameRec_f (a b : S44) (hn : a.f2.length ≤ 9223372036854775807) (k : Nat) (hk : a.f2.length < k) : igmp_sameRec.f k a.f0 a.f1 a.f2 b.f0 b.f1 b.f2 = some (recEq a b) := by
  unfold igmp_sameRec.f recEq
  rw [equal_f _ _ hn k hk]
  by_cases h0 : a.f0 = b.f0 <;> by_cases h1 : a.f1 = b.f1 <;> simp [h0, h1]
/-- Two rows of records are the same, as Bools are told. -/
def recsEq (a b : List S44) : Bool := decide (a.length = b.length) && (a.zip b).all (fun p => recEq p.1 p.2)
theorem recsEq_iff (a b : List S44) : recsEq a b = true ↔ a = b := by
  unfold recsEq
  rw [Bool.and_eq_true, decide_eq_true_eq, List.all_eq_true]
  constructor
  · rintro ⟨hl, h⟩
    apply List.ext_getElem hl
    intro i h1 h2
    have := h (a[i], b[i]) (by rw [List.mem_iff_getElem]; exact ⟨i, by simp; omega, by simp⟩)
    exact (recEq_iff _ _).1 this
  · rintro rfl
    refine ⟨rfl, fun p hp => ?_⟩
    obtain ⟨i, hi, rfl⟩ := List.mem_iff_getElem.1 hp
    simp [recEq_iff]
end Go.Proofs.Ytafmjhmpnlkeiaa.P

namespace Go.Proofs.Ytafmjhmpnlkeiaa.P
open Go.RowKit Go.Proofs.YtafmjhmpnlkeiaaW.PrintWords Go.Proofs.YtafmjhmpnlkeiaaW.PrintLast Go.Proofs.YtafmjhmpnlkeiaaW.PrintMore
attribute [local go_sem] max2_int min2_int max_two min_two max_three min_three max_four min_four   -- for this text's walks alone
set_option linter.unusedVariables false
set_option linter.unusedSimpArgs false
/-! ### addr_Of: function 57 -/
def addr_Of.l0 : Nat → Int → List Int → Int → Int → Option (Int × Int)
  | 0, _, _, _, _ => none
  | k + 1, x4, x15, x16, x17 => if x17 < x16 then (if 0 ≤ x17 then (if x17 < (x15.length : Int) then (addr_Of.l0 k (Go.bits .or .u32 ((x4 * 256) % 4294967296) ((rd x15 x17) % 4294967296)) x15 x16 (wrap64 (x17 + 1))) else (none)) else (none)) else (some (x4, 0))
def addr_Of.f (k : Nat) (l0 : List Int) : Option (Int × Int) := if (l0.length : Int) < 4 then (some (0, 3)) else (if (l0.length : Int) > 4 then (some (0, 2)) else (addr_Of.l0 k 0 l0 (l0.length : Int) 0))
set_option maxHeartbeats 8000000 in
set_option maxRecDepth 100000 in
theorem addr_Of.calls (k : Nat) (A0 : Option Addr) (c0 : Nat) (l0 : List Int) (r1 : Int) (r2 : Int) (w : World) (hr0 : Kd.C (Kd.int .u8) w A0 l0.length l0) (hc0 : l0.length ≤ c0) (h : addr_Of.f k l0 = some (r1, r2)) :
    Calls Try.prog 57 #[.slice A0 l0.length c0] w fun e w' => e = .returned (.tuple #[.int .u32 r1, .int .i64 r2]) ∧ Drawn0 w w' := by
  have HR0 := Aside0.mk hr0
  have HC0 := Aside0.mk hc0
  clear hr0 hc0
  have H : (if (l0.length : Int) < 4 then (some (0, 3)) else (if (l0.length : Int) > 4 then (some (0, 2)) else (addr_Of.l0 k 0 l0 (l0.length : Int) 0))) = some (r1, r2) := h
  clear h
  by_cases c2 : (l0.length : Int) < 4
  · rw [if_pos c2] at H
    have c2b0 : decide ((l0.length : Int) < 4) = true := decide_eq_true c2
    have c2b1 : decide (l0.length < 4) = true := decide_eq_true (by omega)
    clear c2
    simp only [Option.some.injEq, Prod.mk.injEq] at H
    obtain ⟨rfl, rfl⟩ := H
    go_enter Try.func57, Try.ntmps57
    go_wp2
    go_ret2
    exact ⟨by first | rfl | (simp; done) | (simp [*]; done), by repeat (first | exact Drawn0.refl _ | apply Drawn0.step)⟩
  · rw [if_neg c2] at H
    have c2b0 : decide ((l0.length : Int) < 4) = false := decide_eq_false c2
    have c2b1 : decide (l0.length < 4) = false := decide_eq_false (by omega)
    clear c2
    by_cases c3 : (l0.length : Int) > 4
    · rw [if_pos c3] at H
      have c3b0 : decide (4 < (l0.length : Int)) = true := decide_eq_true c3
      have c3b1 : decide (4 < l0.length) = true := decide_eq_true (by omega)
      clear c3
      simp only [Option.some.injEq, Prod.mk.injEq] at H
      obtain ⟨rfl, rfl⟩ := H
      go_enter Try.func57, Try.ntmps57
      go_wp2
      go_ret2
      exact ⟨by first | rfl | (simp; done) | (simp [*]; done), by repeat (first | exact Drawn0.refl _ | apply Drawn0.step)⟩
    · rw [if_neg c3] at H
      have c3b0 : decide (4 < (l0.length : Int)) = false := decide_eq_false c3
      have c3b1 : decide (4 < l0.length) = false := decide_eq_false (by omega)
      clear c3
      have H' := Aside0.mk H
      clear H
      go_enter Try.func57, Try.ntmps57
      go_wp2
      go_loopg [4, 17] k (fun kq v4 v17 w' => ∃ (x4_1 : Int) (x17_1 : Int), v4 = .int .u32 x4_1 ∧ v17 = .int .i64 x17_1 ∧ Aside0 (addr_Of.l0 kq x4_1 l0 (l0.length : Int) x17_1 = some (r1, r2)) ∧ Aside0 (kq ≤ k) ∧ Drawn0 w w')
      case atStart => exact ⟨(0), (0), (by first | rfl | (simp; done) | (simp [*]; done)), (by first | rfl | (simp; done) | (simp [*]; done)), H', ⟨Nat.le_refl _⟩, by repeat (first | exact Drawn0.refl _ | apply Drawn0.step)⟩
      case round =>
        clear H'
        try clear c2
        try clear c2b0
        try clear c2b1
        try clear p2
        try clear c3
        try clear c3b0
        try clear c3b1
        obtain ⟨x4_1, x17_1, rfl, rfl, HA, HK1, ⟨m1, rfl⟩⟩ := hrel
        cases gk with
        | zero => exact absurd HA.out (by simp [addr_Of.l0])
        | succ k1 =>
          have H := HA.out
          clear HA
          simp only [addr_Of.l0] at H
          by_cases c4 : x17_1 < (l0.length : Int)
          · rw [if_pos c4] at H
            have c4b0 : decide (x17_1 < (l0.length : Int)) = true := decide_eq_true c4
            clear c4
            by_cases c5 : 0 ≤ x17_1
            · rw [if_pos c5] at H
              have c5b0 : decide (0 ≤ x17_1) = true := decide_eq_true c5
              clear c5
              by_cases c6 : x17_1 < (l0.length : Int)
              · rw [if_pos c6] at H
                have c6b0 : decide (x17_1 < (l0.length : Int)) = true := decide_eq_true c6
                clear c6
                have H' := Aside0.mk H
                clear H
                have p309 : 0 ≤ (x17_1 : Int) := of_decide_eq_true (by first | (with_reducible assumption) | assumption)
                have q309 : x17_1 < (l0.length : Int) := of_decide_eq_true (by first | (with_reducible assumption) | assumption)
                obtain ⟨ad309, e309, hx309_0⟩ := Kd.at_int HR0.out x17_1 p309 q309
                cases e309
                replace p309 := eq_true p309
                replace q309 := eq_true q309
                go_wp2
                go_roundg k1
                case measure => have := HK1.out; omega
                case rel => exact ⟨(Go.bits .or .u32 ((x4_1 * 256) % 4294967296) ((rd l0 x17_1) % 4294967296)), (wrap64 (x17_1 + 1)), (by first | rfl | (simp; done) | (simp [*]; done)), (by first | rfl | (simp; done) | (simp [*]; done)), H', ⟨by have := HK1.out; omega⟩, by repeat (first | exact Drawn0.refl _ | apply Drawn0.step)⟩
              · rw [if_neg c6] at H
                exact absurd H (by simp)
            · rw [if_neg c5] at H
              exact absurd H (by simp)
          · rw [if_neg c4] at H
            have c4b0 : decide (x17_1 < (l0.length : Int)) = false := decide_eq_false c4
            clear c4
            simp only [Option.some.injEq, Prod.mk.injEq] at H
            obtain ⟨rfl, rfl⟩ := H
            go_wp2
            go_ret2
            exact ⟨by first | rfl | (simp; done) | (simp [*]; done), by repeat (first | exact Drawn0.refl _ | apply Drawn0.step)⟩
end Go.Proofs.Ytafmjhmpnlkeiaa.P

namespace Go.Proofs.Ytafmjhmpnlkeiaa.P
open Go.RowKit Go.Proofs.YtafmjhmpnlkeiaaW.PrintWords Go.Proofs.YtafmjhmpnlkeiaaW.PrintLast Go.Proofs.YtafmjhmpnlkeiaaW.PrintMore
set_option linter.unusedVariables false
set_option linter.unusedSimpArgs false
theorem rd_cell {X : World} {b : Nat} {cs : Array Value} {t : TypeId} (h : X.heap[b]? = some (.cells cs t (0, 0))) (i : Nat) (v : Value) (hv : cs[i]? = some v) : X.cell? ⟨b, i, none⟩ = some v := by
  simp [World.cell?, h, hv]
theorem rd_frozen {X : World} {b : Nat} {cs : Array Value} {t : TypeId} (h : X.heap[b]? = some (.cells cs t (0, 0))) (i : Nat) : X.frozen? ⟨b, i, none⟩ = false := by
  simp [World.frozen?, h]
theorem rd_set {X : World} {b : Nat} {cs : Array Value} {t : TypeId} (h : X.heap[b]? = some (.cells cs t (0, 0))) (i : Nat) (u : Value) (hi : i < cs.size) : (X.setCell ⟨b, i, none⟩ u).heap[b]? = some (.cells (cs.setIfInBounds i u) t (0, 0)) := by
  simp [World.setCell, Array.getElem?_modify, h]
theorem setg (w0 w : World) (g : Nat) (u : Value) (hg : w0.heap.size ≤ g) (hb : Below w0.heap.size w0 w) : Below w0.heap.size w0 (w.setCell ⟨g, 0, none⟩ u) := hb.setCell (p := ⟨g, 0, none⟩) hg _
end Go.Proofs.Ytafmjhmpnlkeiaa.P

namespace Go.Proofs.Ytafmjhmpnlkeiaa.P
open Go.RowKit Go.Proofs.YtafmjhmpnlkeiaaW.PrintWords Go.Proofs.YtafmjhmpnlkeiaaW.PrintLast Go.Proofs.YtafmjhmpnlkeiaaW.PrintMore
set_option linter.unusedVariables false
set_option linter.unusedSimpArgs false
/-- A reader's flat fields. -/
structure Flat where
  kind : Int
  ver : Int
  code : Int
  group : Int
  quiet : Bool
  robust : Int
  every : Int
/-- A reader's block. -/
def rdBlock (b : Value) (m : Flat) (v7 v8 : Value) (short : Bool) : Obj := .cells #[b, .int .u8 m.kind, .int .i64 m.ver, .int .u8 m.code, .int .u32 m.group, .bool m.quiet, .int .u8 m.robust, .int .u8 m.every, v7, v8, .bool short] 63
/-- A reader at g: what is left of the bytes that came with w0. -/
def RdI (w0 W : World) (g : Nat) (rest : List Int) (m : Flat) (v7 v8 : Value) (short : Bool) : Prop :=
  ∃ A c, W.heap[g]? = some (rdBlock (.slice A rest.length c) m v7 v8 short) ∧ rest.length ≤ c ∧ Kd.C (Kd.int .u8) w0 A rest.length rest ∧ w0.heap.size ≤ g ∧ Below w0.heap.size w0 W
def takeV (rest : List Int) (short : Bool) (k : Nat) : List Int := if short = true ∨ rest.length < k then List.replicate k 0 else rest.take k
def takeR (rest : List Int) (short : Bool) (k : Nat) : List Int := if short = true ∨ rest.length < k then rest else rest.drop k
set_option maxHeartbeats 1000000 in
set_option maxRecDepth 100000 in
theorem take49x (w0 w : World) (g : Nat) (rest : List Int) (m : Flat) (v7 v8 : Value) (short : Bool) (k : Nat) (hk0 : 0 < k) (hk : k ≤ 4) (h : RdI w0 w g rest m v7 v8 short) :
    Calls Try.prog 49 #[.pointer (some ⟨g, 0, none⟩), .int .i64 k] w fun e w' => ∃ A c, e = .returned (.slice A k c) ∧ k ≤ c ∧ (∀ W', Kept w' W' (fun j => j = g) → Kd.C (Kd.int .u8) W' A k (takeV rest short k)) ∧
      RdI w0 w' g (takeR rest short k) m v7 v8 (short || decide (rest.length < k)) ∧ Kept w w' (fun j => j = g) ∧ (∀ ad, A = some ad → ad.block < w0.heap.size ∨ w.heap.size ≤ ad.block) := by
  obtain ⟨A, c, hW, hc, hC, hg, hb⟩ := h
  have k0 : w.cell? ⟨g, 0, none⟩ = some (.slice A rest.length c) := rd_cell hW 0 _ rfl
  have k1 : w.cell? ⟨g, 10, none⟩ = some (.bool short) := rd_cell hW 10 _ rfl
  have k2 := rd_frozen hW 10
  have k3 := rd_frozen hW 0
  have HW := Aside0.mk hW
  have HC := Aside0.mk hC
  have HB := Aside0.mk hb
  have hmk := print_make (P := Try.prog) 30 5 .u8 1 Try.underlying30 info5 (by decide) k (by omega)
  clear hW hC hb
  have hcut : takeV rest short k = List.replicate k 0 → takeR rest short k = rest → (short || decide (rest.length < k)) = true → (∀ W', Kept ((w.setCell ⟨g, 10, none⟩ (.bool true)).alloc (.cells (madeCells #[.int .u8 0] k) 5)) W' (fun j => j = g) → Kd.C (Kd.int .u8) W' (some ⟨w.heap.size, 0, none⟩) k (takeV rest short k)) ∧
      RdI w0 ((w.setCell ⟨g, 10, none⟩ (.bool true)).alloc (.cells (madeCells #[.int .u8 0] k) 5)) g (takeR rest short k) m v7 v8 (short || decide (rest.length < k)) ∧ Kept w ((w.setCell ⟨g, 10, none⟩ (.bool true)).alloc (.cells (madeCells #[.int .u8 0] k) 5)) (fun j => j = g) := by
    intro h1 h2 h3
    rw [h1, h2, h3]
    have hB2 : Below w0.heap.size w0 (w.setCell ⟨g, 10, none⟩ (.bool true)) := HB.out.setCell (p := ⟨g, 10, none⟩) hg _
    have hlt : g < w.heap.size := (Array.getElem?_eq_some_iff.1 HW.out).1
    have hsz : (w.setCell ⟨g, 10, none⟩ (.bool true)).heap.size = w.heap.size := by simp [World.setCell]
    refine ⟨fun W' hk' => ?_, ⟨A, c, ?_, hc, HC.out, hg, below_alloc hB2 _⟩, Kept.alloc (Kept.setCell (S := fun j => j = g) (Kept.refl _ _) (p := ⟨g, 10, none⟩) (.inl rfl) _) _⟩
    · refine ⟨by simp, by omega, fun _ => ⟨_, rfl, fun j p hj => ⟨[.int .u8 p], rfl, rfl, fun i u hi => ?_⟩⟩⟩
      have hjl : j < k := by have := (List.getElem?_eq_some_iff.1 hj).1; simpa using this
      obtain rfl : p = 0 := by rw [List.getElem?_replicate, if_pos hjl] at hj; exact (Option.some.inj hj).symm
      obtain rfl : i = 0 := by
        have := (List.getElem?_eq_some_iff.1 hi).1
        simpa using this
      obtain rfl : Value.int .u8 0 = u := by simpa using hi
      refine Go.Proofs.YtafmjhmpnlkeiaaW.PrintWords.cell_kept ?_ hk' (by rw [add_plain]; show ¬ (w.heap.size = g); omega)
      rw [add_plain, ← hsz, World.cell?_alloc_at _ _ _ _ rfl]
      show (madeCells #[.int .u8 0] k)[j * 1 + 0]? = _
      simp [madeCells, hjl, Nat.mod_one]
    · rw [(MapKept.heap_alloc _ _).2 g (by omega)]
      exact rd_set HW.out 10 _ (by simp)
  cases short with
  | true =>
    go_enter Try.func49, Try.ntmps49
    go_wp2_with fail
    go_ret
    obtain ⟨z1, z2, z3⟩ := hcut (by simp [takeV]) (by simp [takeR]) rfl
    exact ⟨_, _, rfl, Nat.le_refl _, z1, z2, z3, fun ad e => .inr (by cases e; exact Nat.le_refl _)⟩
  | false =>
    by_cases hlt : rest.length < k
    · have hd : decide ((rest.length : Int) < (k : Int)) = true := decide_eq_true (by omega)
      go_enter Try.func49, Try.ntmps49
      go_wp2_with fail
      go_ret
      obtain ⟨z1, z2, z3⟩ := hcut (by simp [takeV, hlt]) (by simp [takeR, hlt]) (by simp [hlt])
      exact ⟨_, _, rfl, Nat.le_refl _, z1, z2, z3, fun ad e => .inr (by cases e; exact Nat.le_refl _)⟩
    · have hd : decide ((rest.length : Int) < (k : Int)) = false := decide_eq_false (by omega)
      have hkr : k ≤ rest.length := by omega
      have hV : takeV rest false k = rest.take k := by simp [takeV, hlt]
      have hR : takeR rest false k = rest.drop k := by simp [takeR, hlt]
      have hlen : (rest.drop k).length = rest.length - k := by simp
      have htl : (rest.take k).length = k := by simp; omega
      have hCt := Kd.C_take HC.out hkr
      have hCd := Kd.C_drop HC.out hkr hc
      rw [htl] at hCt
      have HCt := Aside0.mk hCt
      have HCd := Aside0.mk hCd
      clear hCt hCd
      go_enter Try.func49, Try.ntmps49
      go_wp2_with fail
      all_goals
        go_ret
        refine ⟨_, _, rfl, by omega, ?_, ?_, Kept.setCell (S := fun j => j = g) (Kept.refl _ _) (p := ⟨g, 0, none⟩) (.inl rfl) _, ?_⟩
        · (try rw [hV])
          exact Kd.C_kept_came (Kd.heap_int _) HCt.out (setg w0 w g _ hg HB.out) (fun j hj => by omega)
        · (try rw [hR])
          refine ⟨_, c - k, ?_, by (try rw [hlen]); omega, HCd.out, hg, setg w0 w g _ hg HB.out⟩
          (try rw [hlen])
          have hs := rd_set HW.out 0 (.slice (if c = k then A else A.map (·.add (k * (Kd.int .u8).sz))) (rest.length - k) (c - k)) (by simp)
          have e1 : (Kd.int .u8).sz = 1 := rfl
          simp_all [rdBlock]
        · rintro ad e
          left
          obtain ⟨ad', e', p⟩ := Kd.at_int HC.out 0 (by omega) (by omega)
          rw [e] at e'
          cases e'
          have := World.block_lt_of_cell? w0 _ p
          simpa [Addr.add] using this
theorem take49 (w0 w : World) (g : Nat) (rest : List Int) (m : Flat) (v7 v8 : Value) (short : Bool) (k : Nat) (hk0 : 0 < k) (hk : k ≤ 4) (h : RdI w0 w g rest m v7 v8 short) :
    Calls Try.prog 49 #[.pointer (some ⟨g, 0, none⟩), .int .i64 k] w fun e w' => ∃ A c, e = .returned (.slice A k c) ∧ k ≤ c ∧ (∀ W', Kept w' W' (fun j => j = g) → Kd.C (Kd.int .u8) W' A k (takeV rest short k)) ∧
      RdI w0 w' g (takeR rest short k) m v7 v8 (short || decide (rest.length < k)) ∧ Kept w w' (fun j => j = g) :=
  (take49x w0 w g rest m v7 v8 short k hk0 hk h).mono fun _ _ ⟨A, c, h1, h2, h3, h4, h5, _⟩ => ⟨A, c, h1, h2, h3, h4, h5⟩
end Go.Proofs.Ytafmjhmpnlkeiaa.P

namespace Go.Proofs.Ytafmjhmpnlkeiaa.P
open Go.RowKit Go.Proofs.YtafmjhmpnlkeiaaW.PrintWords Go.Proofs.YtafmjhmpnlkeiaaW.PrintLast Go.Proofs.YtafmjhmpnlkeiaaW.PrintMore
attribute [local go_sem] max2_int min2_int max_two min_two max_three min_three max_four min_four   -- for this text's walks alone
set_option linter.unusedVariables false
set_option linter.unusedSimpArgs false
/-! ### sum_Join: function 56 -/
def sum_Join.f (a0 : Int) (a1 : Int) : Option (Int) := some (IntKind.u16.wrap (((Go.bits .and .u32 ((((a0) % 4294967296) + ((a1) % 4294967296)) % 4294967296) 65535) + (((((a0) % 4294967296) + ((a1) % 4294967296)) % 4294967296) / 65536)) % 4294967296))
set_option maxHeartbeats 8000000 in
set_option maxRecDepth 100000 in
theorem sum_Join.calls (a0 : Int) (a1 : Int) (r : Int) (w : World) (h : sum_Join.f a0 a1 = some r) :
    Calls Try.prog 56 #[.int .u16 a0, .int .u16 a1] w fun e w' => e = .returned (.int .u16 r) ∧ Drawn0 w w' := by
  have H : (some (IntKind.u16.wrap (((Go.bits .and .u32 ((((a0) % 4294967296) + ((a1) % 4294967296)) % 4294967296) 65535) + (((((a0) % 4294967296) + ((a1) % 4294967296)) % 4294967296) / 65536)) % 4294967296))) = some r := h
  clear h
  obtain rfl := Option.some.inj H
  go_enter Try.func56, Try.ntmps56
  go_wp2
  go_ret
  exact ⟨by first | rfl | (simp; done) | (simp [*]; done), by repeat (first | exact Drawn0.refl _ | apply Drawn0.step)⟩
end Go.Proofs.Ytafmjhmpnlkeiaa.P

namespace Go.Proofs.Ytafmjhmpnlkeiaa.P
open Go.RowKit Go.Shelf Go.Proofs.YtafmjhmpnlkeiaaW.PrintWords Go.Proofs.YtafmjhmpnlkeiaaW.PrintLast Go.Proofs.YtafmjhmpnlkeiaaW.PrintMore
attribute [local go_sem] Oper.semAt_some
set_option linter.unusedVariables false
set_option linter.unusedSimpArgs false
def joinS (a b : Int) : Int := (sum_Join.f a b).getD 0
def sum16 (ws : List Int) : Int := ws.foldl joinS 0
theorem sum16_snoc (ws : List Int) (x : Int) : sum16 (ws ++ [x]) = joinS (sum16 ws) x := by simp [sum16]
/-- The sum's bits, turned. -/
def turned16 (s : Int) : Int := bits BinOp.xor IntKind.u16 IntKind.u16.max s
/-- What stands between two rounds. -/
def OfInv (w : World) (So l D : Nat) (rec : Loop) (ws : List Int) (W : World) : Prop :=
  W.heap[So]? = some (.cells #[.int .u16 (sum16 ws)] 66 (0, 0)) ∧ W.heap[l]? = some (.loop rec) ∧ W.heap[D]? = some (.deferred (some [])) ∧ Below w.heap.size w W
set_option maxHeartbeats 2000000 in
set_option maxRecDepth 100000 in
theorem of44 (ad : Addr) (c0 : Nat) (l0 : List Int) (w : World) (hr0 : Kd.C (Kd.int .u8) w (some ad) l0.length l0) (hc0 : l0.length ≤ c0) (hcap : l0.length ≤ 140737488355328) (hb : bytesOk l0) (h1 : 0 < l0.length) :
    Calls Try.prog 44 #[.slice (some ad) l0.length c0] w fun e w' => e = .returned (.int .u16 (turned16 (sum16 (wordsOf l0)))) ∧ Below w.heap.size w w' := by
  refine (callsIn_wide (n := 4)).1 ?_
  refine callsIn_of_wp_marks Try.func44 rfl trivial ?_ rfl
  simp only [Try.ntmps44, List.size_toArray, List.length_cons, List.length_nil, Nat.reduceAdd, Nat.reduceSub, Array.replicate_succ, Array.replicate_zero, List.push_toArray, List.append_toArray, List.nil_append, List.cons_append]
  gi_wp2
  refine ⟨trivial, ?_⟩
  refine (callsIn_wide.2 (words55 _ _ _ _)).mono ?_
  rintro e w' ⟨rfl, rfl⟩
  gi_wp2
  obtain ⟨W2, hW2⟩ : ∃ W2, (w.alloc (.cells #[.int .u16 0] 66)).alloc (.cells #[.slice (some ad) l0.length c0] 30) = W2 := ⟨_, rfl⟩
  have hbl : Below w.heap.size w W2 := by rw [← hW2]; exact (((Below.refl _ w).alloc (Nat.le_refl _) _).alloc (by simp) _)
  have hsz : W2.heap.size = w.heap.size + 2 := by rw [← hW2]; simp
  have hs0 : W2.heap[w.heap.size]? = some (.cells #[.int .u16 0] 66 (0, 0)) := by rw [← hW2]; exact (Below.heap_alloc _ _ _ (by simp)).trans (World.alloc_heap_new w _)
  have hb0 : W2.cell? ⟨w.heap.size + 1, 0, none⟩ = some (.slice (some ad) l0.length c0) := by
    rw [← hW2]
    have h := new_cell (w.alloc (.cells #[.int .u16 0] 66)) (.slice (some ad) l0.length c0) 30
    rwa [World.size_alloc] at h
  rw [hW2]
  clear hW2
  refine range_law (gf := 58) (lb := #[.pointer (some ⟨w.heap.size + 1, 0, none⟩)]) rfl (enters_of Try.func58 (by kernel_rfl) rfl) (by omega) ?_
  intro l D ready W4 hl hD hL1 hK1 hbl4 hsz4 hround hend
  have hcw : ∀ j, j < l0.length → W4.cell? (ad.add j) = some (.int .u8 (l0.getD j 0)) := by
    intro j hj
    obtain ⟨ad', e', hc⟩ := Kd.at_int hr0 (j : Int) (by omega) (by omega)
    obtain rfl := Option.some.inj e'
    simp only [Int.toNat_natCast] at hc
    have h2 := (hbl.trans (hbl4.mono (by omega))).cell (World.block_lt_of_cell? w _ hc)
    rw [h2]
    simpa [rd] using hc
  have hadb : ad.block < w.heap.size := by
    obtain ⟨ad', e', hc⟩ := Kd.at_int hr0 (0 : Int) (by omega) (by omega)
    obtain rfl := Option.some.inj e'
    have := World.block_lt_of_cell? w _ hc
    rwa [add_block] at this
  refine (words58 l w.heap.size (l + 1) (w.heap.size + 1) c0 ad l0 hc0 hcap hb (OfInv w w.heap.size l D ready) ?_ ?_ W4 (by omega) (by omega) ((hbl4.cell (p := ⟨w.heap.size + 1, 0, none⟩) (by simp; omega)).trans hb0) (by omega) hcw ⟨(hbl4.block _ (by omega)).trans hs0, hL1, hK1, hbl.trans (hbl4.mono (by omega))⟩).mono ?_
  · rintro s X Y ⟨h1, h2, h3, h4⟩ hXY
    exact ⟨(hXY.block _ (by omega)).trans h1, (hXY.block _ (by omega)).trans h2, (hXY.block _ (by omega)).trans h3, h4.trans (hXY.mono (by omega))⟩
  · have Hl := Aside0.mk (show l = w.heap.size + 3 by omega)
    have HD := Aside0.mk (show D = w.heap.size + 2 by omega)
    clear hsz hsz4 hs0 hb0 hL1 hK1 hcw hr0 hbl hbl4 hl hD hend
    rintro pre x X ⟨g1, g2, g3, g4⟩
    refine hround 1 _ X _ g2 rfl ?_
    intro rb hrb
    have G2 := Aside0.mk g2
    have G1 := Aside0.mk g1
    have Hrb := Aside0.mk hrb
    clear hround g2 g1 hrb
    gi_wp2
    refine ⟨G2.out, ?_⟩
    intro X2 x1 x2 x3
    have y1 : X2.heap[w.heap.size]? = some (.cells #[.int .u16 (sum16 pre)] 66 (0, 0)) := (x2.block _ (Array.getElem?_eq_some_iff.1 G1.out).1 (by have := Hl.out; simp; omega)).trans G1.out
    obtain ⟨c1, f1⟩ := one_cell y1
    have Y1 := Aside0.mk y1
    have X1 := Aside0.mk x1
    have Q2 := Aside0.mk x2
    clear x1 x2 x3 y1
    gi_wp2
    refine ⟨trivial, ?_⟩
    refine (CallsIn.inRound l (callsIn_wide.2 (sum_Join.calls (sum16 pre) x (joinS (sum16 pre) x) _ rfl))).mono ?_
    rintro e w1 ⟨rfl, ⟨q, rfl⟩⟩
    gi_wp2
    refine Hrb.out _ _ ?_ ?_
    · exact (Below.heap_setCell _ _ _ _ (by have := Hl.out; simp; omega)).trans X1.out
    · intro X4 k1 k2 k3
      have hg : X.grownBy X4 (some w.heap.size) := by
        have a1 := Q2.out
        have a2 : X2.grownBy ((X2.setCell ⟨w.heap.size, 0, none⟩ (.int .u16 (joinS (sum16 pre) x))).drewN q) (some w.heap.size) := World.grownBy.trans (grown_set X2 ⟨w.heap.size, 0, none⟩ _) ((grown_of_below (pw_below_drewN (Below.refl _ _) q) none).weaken_some _)
        refine ⟨k2.os.trans (a2.os.trans a1.os), k2.tape.trans (a2.tape.trans a1.tape), k2.output.trans (a2.output.trans a1.output), Nat.le_trans a1.size (Nat.le_trans a2.size k2.size), fun i hi hne => ?_⟩
        by_cases e : i = l
        · subst e
          exact k1.trans G2.out.symm
        · exact (k2.block i (Nat.lt_of_lt_of_le hi (Nat.le_trans a1.size a2.size)) (by simpa using e)).trans ((a2.block i (Nat.lt_of_lt_of_le hi a1.size) hne).trans (a1.block i hi (by simpa using e)))
      refine ⟨by first | rfl | trivial, ⟨?_, k1, ?_, ?_⟩, hg⟩
      · refine (k2.block _ ?_ (by have := Hl.out; simp; omega)).trans ?_
        · have := (Array.getElem?_eq_some_iff.1 (one_set Y1.out (.int .u16 (joinS (sum16 pre) x)))).1
          exact this
        · rw [sum16_snoc]
          exact one_set Y1.out _
      · exact (hg.block _ (Array.getElem?_eq_some_iff.1 g3).1 (by have := HD.out; simp; omega)).trans g3
      · exact g4.grown hg (by have := (Array.getElem?_eq_some_iff.1 g3).1; have := HD.out; omega) (fun k e => by cases e; omega)
  · rintro e X ⟨⟨v, rfl⟩, ⟨h1, h2, h3, h4⟩, hg⟩
    refine hend X v _ h2 ?_
    intro X2 x2 x3
    have y1 : X2.heap[w.heap.size]? = some (.cells #[.int .u16 (sum16 (wordsOf l0))] 66 (0, 0)) := (x2.block _ (Array.getElem?_eq_some_iff.1 h1).1 (by simp; omega)).trans h1
    obtain ⟨c1, f1⟩ := one_cell y1
    have hD2 : X2.heap[D]? = some (.deferred (some [])) := (x2.block _ (Array.getElem?_eq_some_iff.1 h3).1 (by simp; omega)).trans h3
    have hB2 : Below w.heap.size w X2 := h4.grown x2 h4.size (fun k e => by cases e; omega)
    have HD2 := Aside0.mk hD2
    have HB2 := Aside0.mk hB2
    have Hd := Aside0.mk (show w.heap.size ≤ D by omega)
    clear hsz hsz4 hs0 hb0 hL1 hK1 hcw hr0 hbl hbl4 hl hD hend hround h1 h2 h3 h4 x2 x3 y1 hg hD2 hB2
    gi_wp2
    refine ⟨by simp, .inl ⟨_, _, rfl, run_takeDeferred HD2.out, ?_⟩⟩
    exact ⟨_, results_tmp rfl _ _ _, rfl, HB2.out.grown (grownBy_putObj' X2 D _) (by have := HB2.out.size; omega) (fun k e => by cases e; exact Hd.out)⟩
def okBytes (l : List Int) : Bool := l.all fun x => decide (0 ≤ x) && decide (x ≤ 255)
theorem bytesOk_of {l : List Int} (h : okBytes l = true) : bytesOk l := by
  intro j
  unfold okBytes at h
  rw [List.all_eq_true] at h
  by_cases hj : j < l.length
  · have := h l[j] (List.getElem_mem hj)
    simp [List.getD_eq_getElem?_getD, hj] at this ⊢
    omega
  · simp [List.getD_eq_getElem?_getD, List.getElem?_eq_none (show l.length ≤ j by omega)]
/-- The sum of bytes that are bytes; not of none. -/
def sum_Of.f (l0 : List Int) : Option (Int) := if okBytes l0 = true ∧ 0 < l0.length ∧ l0.length ≤ 140737488355328 then some (turned16 (sum16 (wordsOf l0))) else none
theorem sum_Of.calls (A0 : Option Addr) (c0 : Nat) (l0 : List Int) (r : Int) (w : World) (hr0 : Kd.C (Kd.int .u8) w A0 l0.length l0) (hc0 : l0.length ≤ c0) (h : sum_Of.f l0 = some r) :
    Calls Try.prog 44 #[.slice A0 l0.length c0] w fun e w' => e = .returned (.int .u16 r) ∧ Below w.heap.size w w' := by
  unfold sum_Of.f at h
  by_cases hc : okBytes l0 = true ∧ 0 < l0.length ∧ l0.length ≤ 140737488355328
  · rw [if_pos hc] at h
    obtain rfl := Option.some.inj h
    obtain ⟨ad, rfl⟩ : ∃ ad, A0 = some ad := by
      obtain ⟨ad, e, _⟩ := Kd.at_int hr0 (0 : Int) (by omega) (by omega)
      exact ⟨ad, e⟩
    exact of44 ad c0 l0 w hr0 hc0 hc.2.2 (bytesOk_of hc.1) hc.2.1
  · rw [if_neg hc] at h
    cases h
end Go.Proofs.Ytafmjhmpnlkeiaa.P

namespace Go.Proofs.Ytafmjhmpnlkeiaa.P
open Go.RowKit Go.Shelf Go.Proofs.YtafmjhmpnlkeiaaW.PrintWords Go.Proofs.YtafmjhmpnlkeiaaW.PrintLast Go.Proofs.YtafmjhmpnlkeiaaW.PrintMore
set_option linter.unusedVariables false
set_option linter.unusedSimpArgs false
theorem RdI.below {w0 W W' : World} {g : Nat} {rest : List Int} {m : Flat} {v7 v8 : Value} {short : Bool} (h : RdI w0 W g rest m v7 v8 short) (hb : Below W.heap.size W W') : RdI w0 W' g rest m v7 v8 short := by
  obtain ⟨A, c, h1, h2, h3, h4, h5⟩ := h
  exact ⟨A, c, (hb.block _ (Array.getElem?_eq_some_iff.1 h1).1).trans h1, h2, h3, h4, h5.trans (hb.mono h5.size)⟩
theorem RdI.w0 {w0 W : World} {g : Nat} {rest : List Int} {m : Flat} {v7 v8 : Value} {short : Bool} (h : RdI w0 W g rest m v7 v8 short) : Below w0.heap.size w0 W := by
  obtain ⟨A, c, h1, h2, h3, h4, h5⟩ := h
  exact h5
theorem RdI.lt {w0 W : World} {g : Nat} {rest : List Int} {m : Flat} {v7 v8 : Value} {short : Bool} (h : RdI w0 W g rest m v7 v8 short) : g < W.heap.size := by
  obtain ⟨A, c, h1, h2, h3, h4, h5⟩ := h
  exact (Array.getElem?_eq_some_iff.1 h1).1
theorem RdI.cells {w0 W : World} {g : Nat} {rest : List Int} {m : Flat} {v7 v8 : Value} {short : Bool} (h : RdI w0 W g rest m v7 v8 short) : (∃ A c, W.cell? ⟨g, 0, none⟩ = some (.slice A rest.length c)) ∧ W.cell? ⟨g, 1, none⟩ = some (.int .u8 m.kind) ∧ W.cell? ⟨g, 2, none⟩ = some (.int .i64 m.ver) ∧ W.cell? ⟨g, 3, none⟩ = some (.int .u8 m.code) ∧ W.cell? ⟨g, 4, none⟩ = some (.int .u32 m.group) ∧ W.cell? ⟨g, 5, none⟩ = some (.bool m.quiet) ∧ W.cell? ⟨g, 6, none⟩ = some (.int .u8 m.robust) ∧ W.cell? ⟨g, 7, none⟩ = some (.int .u8 m.every) ∧ W.cell? ⟨g, 8, none⟩ = some v7 ∧ W.cell? ⟨g, 9, none⟩ = some v8 ∧ W.cell? ⟨g, 10, none⟩ = some (.bool short) ∧ ∀ i, W.frozen? ⟨g, i, none⟩ = false := by
  obtain ⟨A, c, h1, h2, h3, h4, h5⟩ := h
  exact ⟨⟨A, c, rd_cell h1 0 _ rfl⟩, rd_cell h1 1 _ rfl, rd_cell h1 2 _ rfl, rd_cell h1 3 _ rfl, rd_cell h1 4 _ rfl, rd_cell h1 5 _ rfl, rd_cell h1 6 _ rfl, rd_cell h1 7 _ rfl, rd_cell h1 8 _ rfl, rd_cell h1 9 _ rfl, rd_cell h1 10 _ rfl, fun i => rd_frozen h1 i⟩
theorem takeV_length (rest : List Int) (short : Bool) (k : Nat) : (takeV rest short k).length = k := by
  unfold takeV
  split
  · simp
  · rename_i h
    simp at h ⊢
    omega
theorem okBytes_iff' (l : List Int) : okBytes l = true ↔ ∀ x ∈ l, 0 ≤ x ∧ x ≤ 255 := by
  simp [okBytes]
theorem takeV_ok {rest : List Int} (h : okBytes rest = true) (short : Bool) (k : Nat) : okBytes (takeV rest short k) = true := by
  rw [okBytes_iff'] at *
  unfold takeV
  intro x hx
  split at hx
  · have := (List.mem_replicate.1 hx).2; omega
  · exact h x (List.mem_of_mem_take hx)
theorem takeR_ok {rest : List Int} (h : okBytes rest = true) (short : Bool) (k : Nat) : okBytes (takeR rest short k) = true := by
  rw [okBytes_iff'] at *
  unfold takeR
  intro x hx
  split at hx
  · exact h x hx
  · exact h x (List.mem_of_mem_drop hx)
theorem ok_rd {l : List Int} (h : okBytes l = true) (i : Nat) (hi : i < l.length) : 0 ≤ rd l i ∧ rd l i ≤ 255 := by
  rw [okBytes_iff'] at h
  rw [rd_eq l i hi]
  exact h _ (List.getElem_mem hi)
def twoV (l : List Int) : Int := rd l 0 * 256 + rd l 1
theorem two_eq (a b : Int) (h0 : 0 ≤ a) (h1 : a ≤ 255) (h2 : 0 ≤ b) (h3 : b ≤ 255) : bits .or .i64 (a * 256) b = a * 256 + b := by
  exact bits_join .i64 63 (by decide) (fun n h h' => by simp only [IntKind.wrap, IntKind.bits, IntKind.signed]; simp; omega) 8 (a * 256) b (by omega) (by omega) (by omega) h2 (by omega) (by omega)
def addrV (l : List Int) : Int := ((addr_Of.f 5 l).getD (0, 0)).1
set_option maxHeartbeats 1000000 in
set_option maxRecDepth 100000 in
theorem two51 (w0 w : World) (g : Nat) (rest : List Int) (m : Flat) (v7 v8 : Value) (short : Bool) (hok : okBytes rest = true) (h : RdI w0 w g rest m v7 v8 short) :
    Calls Try.prog 51 #[.pointer (some ⟨g, 0, none⟩)] w fun e w' => e = .returned (.int .i64 (twoV (takeV rest short 2))) ∧ RdI w0 w' g (takeR rest short 2) m v7 v8 (short || decide (rest.length < 2)) ∧ Kept w w' (fun j => j = g) := by
  have H := Aside0.mk h
  have hokV := takeV_ok hok short 2
  have hlV := takeV_length rest short 2
  have b0 : 0 ≤ rd (takeV rest short 2) 0 ∧ rd (takeV rest short 2) 0 ≤ 255 := ok_rd hokV 0 (by omega)
  have b1 : 0 ≤ rd (takeV rest short 2) 1 ∧ rd (takeV rest short 2) 1 ≤ 255 := ok_rd hokV 1 (by omega)
  have HT := Aside0.mk (take49 w0 w g rest m v7 v8 short 2 (by omega) (by omega) H.out)
  obtain ⟨V, hV⟩ : ∃ V, takeV rest short 2 = V := ⟨_, rfl⟩
  obtain ⟨R, hR⟩ : ∃ R, takeR rest short 2 = R := ⟨_, rfl⟩
  obtain ⟨s', hs'⟩ : ∃ s', (short || decide (rest.length < 2)) = s' := ⟨_, rfl⟩
  rw [hV, hR, hs'] at HT
  rw [hR, hV, hs']
  rw [hV] at b0 b1 hlV
  have b00 := b0.1
  have b01 := b0.2
  have b10 := b1.1
  have b11 := b1.2
  have HL := Aside0.mk hlV
  clear h hok hokV hV hR hs' hlV b0 b1
  go_enter Try.func51, Try.ntmps51
  go_wp2_with fail
  refine HT.out.mono ?_
  rintro e w1 ⟨A, c, rfl, hc, hC, hR, hK⟩
  have hC1 := hC w1 (Kept.refl _ _)
  obtain ⟨ad, rfl, p0⟩ := Kd.at_int hC1 0 (by omega) (by omega)
  obtain ⟨_, e1, p1⟩ := Kd.at_int hC1 1 (by omega) (by omega)
  cases e1
  have p0b : w1.cell? ad = some (.int .u8 (rd V 0)) := by simpa [Addr.add] using p0
  have p1b : w1.cell? ⟨ad.block, ad.off + 1, none⟩ = some (.int .u8 (rd V 1)) := by simpa [Addr.add] using p1
  clear p0 p1
  have HR := Aside0.mk hR
  have HK := Aside0.mk hK
  clear hC hR hK hC1
  go_wp2_with fail
  go_quiet (fail)
  go_wp2
  go_ret
  refine ⟨by show Ending.returned (Value.int .i64 _) = _; rw [two_eq _ _ b00 b01 b10 b11]; rfl, ?_, ?_⟩
  · exact HR.out.below (pw_below_drewN (Below.refl _ _) _)
  · exact HK.out.drewN _
theorem addrV_f (l : List Int) (h : l.length = 4) : addr_Of.f 5 l = some (addrV l, 0) := by
  match l, h with
  | [a, b, c, d], _ =>
    simp [addrV, addr_Of.f, addr_Of.l0, wrap64]
set_option maxHeartbeats 1000000 in
set_option maxRecDepth 100000 in
theorem addr52 (w0 w : World) (g : Nat) (rest : List Int) (m : Flat) (v7 v8 : Value) (short : Bool) (h : RdI w0 w g rest m v7 v8 short) :
    Calls Try.prog 52 #[.pointer (some ⟨g, 0, none⟩)] w fun e w' => e = .returned (.int .u32 (addrV (takeV rest short 4))) ∧ RdI w0 w' g (takeR rest short 4) m v7 v8 (short || decide (rest.length < 4)) ∧ Kept w w' (fun j => j = g) := by
  have H := Aside0.mk h
  have hlV := takeV_length rest short 4
  have HT := Aside0.mk (take49 w0 w g rest m v7 v8 short 4 (by omega) (by omega) H.out)
  obtain ⟨V, hV⟩ : ∃ V, takeV rest short 4 = V := ⟨_, rfl⟩
  obtain ⟨R, hR⟩ : ∃ R, takeR rest short 4 = R := ⟨_, rfl⟩
  obtain ⟨s', hs'⟩ : ∃ s', (short || decide (rest.length < 4)) = s' := ⟨_, rfl⟩
  rw [hV, hR, hs'] at HT
  rw [hR, hV, hs']
  rw [hV] at hlV
  have HL := Aside0.mk hlV
  have HF := Aside0.mk (addrV_f V hlV)
  clear h hV hR hs' hlV
  go_enter Try.func52, Try.ntmps52
  go_wp2_with fail
  refine HT.out.mono ?_
  rintro e w1 ⟨A, c, rfl, hc, hC, hR, hK⟩
  have hC1 := hC w1 (Kept.refl _ _)
  have HR := Aside0.mk hR
  have HK := Aside0.mk hK
  have HC1 := Aside0.mk hC1
  clear hC hR hK hC1
  go_wp2_with fail
  have hcall := addr_Of.calls 5 A c V (addrV V) 0 w1 (by rw [HL.out]; exact HC1.out) (by rw [HL.out]; exact hc) HF.out
  rw [HL.out] at hcall
  refine hcall.mono ?_
  rintro e w2 ⟨rfl, hd⟩
  have HD := Aside0.mk hd
  clear hd hcall
  go_wp2
  go_ret
  exact ⟨rfl, HR.out.below HD.out.below, HK.out.below HD.out.below⟩
set_option maxHeartbeats 1000000 in
set_option maxRecDepth 100000 in
theorem plain36 (w0 w : World) (g : Nat) (rest : List Int) (m : Flat) (v7 v8 : Value) (short : Bool) (h : RdI w0 w g rest m v7 v8 short) :
    Calls Try.prog 36 #[.pointer (some ⟨g, 0, none⟩)] w fun e w' => e = .returned (.tuple #[]) ∧ RdI w0 w' g (takeR rest short 4) { m with group := addrV (takeV rest short 4) } v7 v8 (short || decide (rest.length < 4)) ∧ Kept w w' (fun j => j = g) := by
  have HT := Aside0.mk (addr52 w0 w g rest m v7 v8 short h)
  clear h
  obtain ⟨x, hx⟩ : ∃ x, addrV (takeV rest short 4) = x := ⟨_, rfl⟩
  rw [hx] at HT ⊢
  clear hx
  go_enter Try.func36, Try.ntmps36
  go_wp2_with fail
  refine HT.out.mono ?_
  rintro e w1 ⟨rfl, hR, hK⟩
  obtain ⟨A, c, h1, h2, h3, h4, h5⟩ := hR
  have HW1 := Aside0.mk h1
  have HB1 := Aside0.mk h5
  have HC := Aside0.mk h3
  have HK := Aside0.mk hK
  have k0 : w1.cell? ⟨g, 4, none⟩ = some (.int .u32 m.group) := rd_cell h1 4 _ rfl
  have k2 := rd_frozen h1 4
  clear h1 h3 h5 hK
  go_wp2
  go_end0
  exact ⟨rfl, ⟨A, c, rd_set HW1.out 4 _ (by simp), h2, HC.out, h4, HB1.out.setCell (p := ⟨g, 4, none⟩) h4 _⟩, HK.out.setCell (p := ⟨g, 4, none⟩) (.inl rfl) _⟩
end Go.Proofs.Ytafmjhmpnlkeiaa.P

namespace Go.Proofs.Ytafmjhmpnlkeiaa.P
open Go.RowKit Go.Proofs.YtafmjhmpnlkeiaaW.PrintWords Go.Proofs.YtafmjhmpnlkeiaaW.PrintLast Go.Proofs.YtafmjhmpnlkeiaaW.PrintMore
set_option linter.unusedVariables false
set_option linter.unusedSimpArgs false
/-- So many addresses. -/
def addrsV : Nat → List Int → List Int
  | 0, _ => []
  | n + 1, l => addrV (l.take 4) :: addrsV n (l.drop 4)
theorem addrsV_length (n : Nat) : ∀ l, (addrsV n l).length = n := by
  induction n with
  | zero => intro l; rfl
  | succ n ih => intro l; simp [addrsV, ih]
theorem addrsV_snoc (n : Nat) : ∀ l, addrsV (n + 1) l = addrsV n l ++ [addrV ((l.drop (4 * n)).take 4)] := by
  induction n with
  | zero => intro l; rfl
  | succ n ih =>
    intro l
    rw [addrsV, ih (l.drop 4)]
    simp only [addrsV, List.cons_append, List.drop_drop]
    rw [show 4 + 4 * n = 4 * (n + 1) by omega]
/-- What x rounds have read, of n. -/
def AddrsAt (n x : Nat) (rest : List Int) (short : Bool) (l rest' : List Int) (short' : Bool) : Prop :=
  (short' = true ∧ (short = true ∨ rest.length < 4 * n)) ∨ (short' = false ∧ short = false ∧ 4 * x ≤ rest.length ∧ l = addrsV x rest ∧ rest' = rest.drop (4 * x))
theorem AddrsAt.step {n x : Nat} {rest l rest' : List Int} {short : Bool} (hx : x < n) (h : AddrsAt n x rest short l rest' false) : AddrsAt n (x + 1) rest short (l ++ [addrV (takeV rest' false 4)]) (takeR rest' false 4) (decide (rest'.length < 4)) := by
  rcases h with ⟨h, _⟩ | ⟨_, rfl, h1, rfl, rfl⟩
  · cases h
  · have hl : (rest.drop (4 * x)).length = rest.length - 4 * x := by simp
    by_cases hs : (rest.drop (4 * x)).length < 4
    · left
      exact ⟨decide_eq_true hs, .inr (by omega)⟩
    · right
      refine ⟨decide_eq_false hs, rfl, by omega, ?_, ?_⟩
      · rw [addrsV_snoc]
        unfold takeV
        rw [if_neg (by simp only [Bool.false_eq_true, false_or]; exact hs)]
      · unfold takeR
        rw [if_neg (by simp only [Bool.false_eq_true, false_or]; exact hs), List.drop_drop]
        rw [show 4 * x + 4 = 4 * (x + 1) by omega]
theorem AddrsAt.fin {n x : Nat} {rest l rest' : List Int} {short short' : Bool} (hx : x = n ∨ short' = true) (h : AddrsAt n x rest short l rest' short') : AddrsAt n n rest short l rest' short' := by
  rcases hx with rfl | rfl
  · exact h
  · rcases h with h | ⟨h, _⟩
    · exact .inl h
    · cases h
theorem inf23 : (Try.prog.info? 23).map (fun i => (i.zero, i.size, i.bytes)) = some (some (.int .u32 0), 1, 4) := by kernel_rfl
theorem C_new32 (W : World) (x : Int) : Kd.C (Kd.int .u32) (W.alloc (.cells #[.int .u32 x] 23)) (some ⟨W.heap.size, 0, none⟩) 1 [x] := by
  refine ⟨rfl, by omega, fun _ => ⟨_, rfl, fun j p hj => ⟨[.int .u32 p], rfl, rfl, fun i u hi => ?_⟩⟩⟩
  have hjl : j < 1 := (List.getElem?_eq_some_iff.1 hj).1
  obtain rfl : j = 0 := by omega
  obtain rfl : x = p := by simpa using hj
  obtain rfl : i = 0 := by
    have := (List.getElem?_eq_some_iff.1 hi).1
    simpa using this
  obtain rfl : Value.int .u32 x = u := by simpa using hi
  rw [add_plain, World.cell?_alloc_at _ _ _ _ rfl]
  rfl
theorem RdI.below' {w0 W W' : World} {g B : Nat} {rest : List Int} {m : Flat} {v7 v8 : Value} {short : Bool} (h : RdI w0 W g rest m v7 v8 short) (hb : Below B W W') (hg : g < B) (h0 : w0.heap.size ≤ B) : RdI w0 W' g rest m v7 v8 short := by
  obtain ⟨A, c, h1, h2, h3, h4, h5⟩ := h
  exact ⟨A, c, (hb.block _ hg).trans h1, h2, h3, h4, h5.trans (hb.mono h0)⟩
theorem kept_of_below {w W W' : World} {S : Nat → Prop} (h : Kept w W S) (hb : Below w.heap.size W W') : Kept w W' S :=
  h.then_ (S2 := fun k => w.heap.size ≤ k) ⟨hb.size, fun i hi hn => hb.block i (by omega)⟩ (fun k hk => .inr hk)
set_option maxHeartbeats 2000000 in
set_option maxRecDepth 100000 in
theorem addrs50 (w0 w : World) (g : Nat) (rest : List Int) (m : Flat) (v7 v8 : Value) (short : Bool) (n : Nat) (hn : n ≤ 65535) (h : RdI w0 w g rest m v7 v8 short) :
    Calls Try.prog 50 #[.pointer (some ⟨g, 0, none⟩), .int .i64 n] w fun e w' => ∃ v l rest' short', e = .returned v ∧ Kd.R (Kd.int .u32) 23 w' w.heap.size (fun _ => True) v l ∧ l.length ≤ n ∧ RdI w0 w' g rest' m v7 v8 short' ∧ AddrsAt n n rest short l rest' short' ∧ Kept w w' (fun j => j = g) := by
  have H := Aside0.mk h
  clear h
  go_enter Try.func50, Try.ntmps50
  go_wp2
  go_loopw [5, 6] (fun v vi wr => ∃ (x : Nat) (l rest' : List Int) (short' : Bool), vi = .int .i64 x ∧ x ≤ n ∧ Aside0 (l.length ≤ x) ∧ Aside0 (Kd.R (Kd.int .u32) 23 wr w.heap.size (fun _ => True) v l) ∧ Aside0 (RdI w0 wr g rest' m v7 v8 short') ∧ Aside0 (AddrsAt n x rest short l rest' short') ∧ Aside0 (Kept w wr (fun j => j = g))) (fun _ vi _ => n - (intOf vi).toNat)
  case atStart => exact ⟨0, [], rest, short, rfl, by omega, ⟨by simp⟩, ⟨Kd.R_nil _ _ _ _ _⟩, H, ⟨by cases short with | true => exact .inl ⟨rfl, .inl rfl⟩ | false => exact .inr ⟨rfl, rfl, by omega, rfl, rfl⟩⟩, ⟨Kept.refl _ _⟩⟩
  case round =>
    obtain ⟨x, l, rest', short', rfl, hx, HL, HR, HD, HA, HK⟩ := hrel
    obtain ⟨-, -, -, -, -, -, -, -, -, -, k10, kf⟩ := HD.out.cells
    by_cases hlt : x < n
    · cases short' with
      | true =>
        go_wp2
        go_ret
        exact ⟨_, l, rest', true, rfl, HR.out, by have := HL.out; omega, HD.out, HA.out.fin (.inr rfl), HK.out⟩
      | false =>
        have HC := Aside0.mk (addr52 w0 wr g rest' m v7 v8 false HD.out)
        have HA2 := Aside0.mk (HA.out.step hlt)
        obtain ⟨a, ha⟩ : ∃ a, addrV (takeV rest' false 4) = a := ⟨_, rfl⟩
        obtain ⟨R, hR⟩ : ∃ R, takeR rest' false 4 = R := ⟨_, rfl⟩
        obtain ⟨s, hs⟩ : ∃ s, decide (rest'.length < 4) = s := ⟨_, rfl⟩
        rw [Bool.false_or] at HC
        rw [ha, hR, hs] at HC HA2
        clear ha hR hs
        obtain ⟨A0, c0, rfl⟩ := Kd.R_slice HR.out
        go_wp2_with fail
        refine HC.out.mono ?_
        rintro e w1 ⟨rfl, hR1, hK1⟩
        have HD1 := Aside0.mk hR1
        have HK1 := Aside0.mk (HK.out.then_ hK1 (fun _ h => .inl h))
        have HR1 : Aside0 (Kd.R (Kd.int .u32) 23 w1 w.heap.size (fun _ => True) (.slice A0 l.length c0) l) := ⟨Kd.R_mono (Kd.R_kept (Kd.R_bound HR.out) hK1 (fun k hk e => by have h1 := hk.2.1; have h2 := H.out.lt; omega)) (fun _ _ => trivial)⟩
        have hll := HL.out
        have HZ : Aside0 (w.heap.size ≤ w1.heap.size) := ⟨HK1.out.1⟩
        have hS1 : Aside0 (w.heap.size ≤ (w1.alloc (.cells #[.int .u32 a] 23)).heap.size) := ⟨by rw [World.size_alloc]; exact Nat.le_trans HZ.out (Nat.le_succ _)⟩
        have hS2 : Aside0 ((l.length + 1) * 4 ≤ 140737488355328) := ⟨by omega⟩
        clear hR1 hK1 HC HR k10 kf hll
        go_wp2_with (at_builtin; go_must (refine Kd.R_append_row (W := w1.alloc (.cells #[.int .u32 a] 23)) (w0 := w1) (Value.int .u32) 0 w.heap.size rfl (.tmp 19) (.tmp 22) 24 23 (.int .u32 0) 4 rfl Try.underlying24 inf23 rfl (by decide) (.slice A0 l.length c0) l [a] (some ⟨w1.heap.size, 0, none⟩) 1 1 (fun _ => True) rfl rfl (fun _ _ => trivial) (Kd.R_below (Kd.R_mono HR1.out (fun _ _ => trivial)) (below_alloc (Below.refl _ _) _)) (C_new32 w1 a) ((Below.refl w.heap.size w1).alloc HZ.out _) hS1.out hS2.out ?_); intro v1 w2 r1 b1 g1 hat; have R1 := Aside0.mk r1; have B1 := Aside0.mk b1; clear r1 b1 g1 hat)
        go_roundw
        case measure => simp [intOf]; omega
        case rel => exact ⟨x + 1, l ++ [a], R, s, by go_num, by omega, ⟨by rw [List.length_append]; exact Nat.succ_le_succ HL.out⟩, R1, ⟨HD1.out.below' B1.out H.out.lt H.out.w0.size⟩, HA2, ⟨kept_of_below HK1.out B1.out⟩⟩
    · go_wp2
      go_ret
      exact ⟨_, l, rest', short', rfl, HR.out, by have := HL.out; omega, HD.out, HA.out.fin (.inl (by omega)), HK.out⟩
end Go.Proofs.Ytafmjhmpnlkeiaa.P
