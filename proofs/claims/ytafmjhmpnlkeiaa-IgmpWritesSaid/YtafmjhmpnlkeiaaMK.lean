/- Seat 5's texts, merged by a program of this session: GLaw5, GLaw6, GLaw7, F57, GTake, F34, GMap, GDecode. Parts of the proof of IgmpWrites: whatever two messages, the law returns true. -/
import Derived.Test.YtafmjhmpnlkeiaaMG
import Derived.Test.YtafmjhmpnlkeiaaMJ
import Derived.Laws.BitsAllLaws
import Derived.Test.YtafmjhmpnlkeiaaMA
import Derived.Deep.DeepMust
import Derived.MapKept
import Derived.Deep.RegionHeld3
import Derived.Laws.ResultCell
import Derived.Test.YtafmjhmpnlkeiaaME

/- The plain law, fifth part: the bytes, the sum. -/
namespace Go.Proofs.Ytafmjhmpnlkeiaa.P
open Go.RowKit Go.Proofs.YtafmjhmpnlkeiaaW.PrintWords Go.Proofs.YtafmjhmpnlkeiaaW.PrintLast Go.Proofs.YtafmjhmpnlkeiaaW.PrintMore
set_option linter.unusedVariables false
set_option linter.unusedSimpArgs false

theorem addrBytes_ref (a : Int) (h0 : 0 ≤ a) (h1 : a < 4294967296) : addrBytes a = refBytes a := by
  have p0 : addr_part.f a 0 = some (a / 16777216 % 256) := by simp [addr_part.f, wrap64, shr, IntKind.bits]
  have p1 : addr_part.f a 1 = some (a / 65536 % 256) := by simp [addr_part.f, wrap64, shr, IntKind.bits]
  have p2 : addr_part.f a 2 = some (a / 256 % 256) := by simp [addr_part.f, wrap64, shr, IntKind.bits]
  have p3 : addr_part.f a 3 = some (a % 256) := by simp [addr_part.f, wrap64, shr, IntKind.bits]
  unfold addrBytes
  simp [addr_Bytes.f, addr_Bytes.l0, wrap64, p0, p1, p2, p3, refBytes, stolonref01_Bytes.f]
  rw [Int.tdiv_eq_ediv_of_nonneg h0, Int.tdiv_eq_ediv_of_nonneg h0, Int.tdiv_eq_ediv_of_nonneg h0, Int.tmod_eq_emod_of_nonneg h0]
  simp
theorem turned16_eq (s : Int) (h0 : 0 ≤ s) (h1 : s ≤ 65535) : turned16 s = 65535 - s := by
  show bits .xor .u16 65535 s = _
  rw [u16_xor _ _ (by omega) (by omega) h0 (by omega)]
  obtain ⟨n, rfl⟩ : ∃ n : Nat, s = n := ⟨s.toNat, by omega⟩
  have h : (BitVec.ofNat 16 n ^^^ BitVec.allOnes 16).toNat = 65535 - n := by
    rw [BitVec.xor_allOnes, BitVec.toNat_not, BitVec.toNat_ofNat, Nat.mod_eq_of_lt (by omega)]
  rw [BitVec.toNat_xor, BitVec.toNat_ofNat, Nat.mod_eq_of_lt (by omega), BitVec.toNat_allOnes, Nat.xor_comm] at h
  have h2 : (65535 : Int).toNat ^^^ ((n : Int)).toNat = 65535 - n := h
  rw [h2]
  omega
theorem join_eq (a b : Int) (ha : 0 ≤ a) (ha1 : a ≤ 65535) (hb : 0 ≤ b) (hb1 : b ≤ 65535) : stolonref02_Join.f a b = some (joinS a b) ∧ 0 ≤ joinS a b ∧ joinS a b ≤ 65535 := by
  have hand : bits .and .u32 (a + b) 65535 = (a + b) % 65536 := by
    rw [u32_and _ _ (by omega) (by omega) (by omega) (by omega)]
    have h := Nat.and_two_pow_sub_one_eq_mod (a + b).toNat 16
    have h2 : (a + b).toNat &&& (65535 : Int).toNat = (a + b).toNat % 65536 := h
    rw [h2]
    omega
  have hj : joinS a b = (a + b) % 65536 + (a + b) / 65536 := by
    unfold joinS sum_Join.f
    rw [Int.emod_eq_of_lt ha (by omega), Int.emod_eq_of_lt hb (by omega), Int.emod_eq_of_lt (show 0 ≤ a + b by omega) (by omega), hand]
    simp [IntKind.wrap, IntKind.bits, IntKind.signed]
    omega
  rw [hj]
  unfold stolonref02_Join.f wrap64
  refine ⟨?_, by omega, by omega⟩
  split
  · simp [IntKind.wrap, IntKind.bits, IntKind.signed]
    omega
  · simp [IntKind.wrap, IntKind.bits, IntKind.signed]
    omega
end Go.Proofs.Ytafmjhmpnlkeiaa.P

/- The plain law, sixth part: the document's sum, and what is put. -/
namespace Go.Proofs.Ytafmjhmpnlkeiaa.P
open Go.RowKit Go.Proofs.YtafmjhmpnlkeiaaW.PrintWords Go.Proofs.YtafmjhmpnlkeiaaW.PrintLast Go.Proofs.YtafmjhmpnlkeiaaW.PrintMore
set_option linter.unusedVariables false
set_option linter.unusedSimpArgs false

theorem wordAt_range (l : List Int) (h : bytesOk l) (i : Nat) : 0 ≤ wordAt l i ∧ wordAt l i ≤ 65535 := by
  have h1 := h (2 * i)
  have h2 := h (2 * i + 1)
  unfold wordAt
  split <;> omega
theorem u16_same (x : Int) (h0 : 0 ≤ x) (h1 : x ≤ 65535) : IntKind.u16.wrap x = x := wraps_u16 x h0 (by omega)
theorem wordsOf_drop (l : List Int) (i : Nat) (h : i < (l.length + 1) / 2) : (wordsOf l).drop i = wordAt l i :: (wordsOf l).drop (i + 1) := by
  have hl : i < (wordsOf l).length := by simpa [wordsOf] using h
  rw [List.drop_eq_getElem_cons hl]
  simp [wordsOf]
theorem of_l0 (l : List Int) (hok : bytesOk l) (hn : l.length ≤ 140737488355328) (d : Nat) : ∀ (i : Nat) (s : Int), (l.length + 1) / 2 - i = d → i ≤ (l.length + 1) / 2 → 0 ≤ s → s ≤ 65535 → Ev (fun k => stolonref02_Of.l0 k l s ((2 * i : Nat) : Int)) (65535 - ((wordsOf l).drop i).foldl joinS s) := by
  induction d with
  | zero =>
    intro i s hd hi h0 h1
    refine Ev.succ (g := fun _ => some (65535 - s)) (fun k => by simp only [stolonref02_Of.l0]; rw [if_neg (by omega), u16_same _ (by omega) (by omega)]) (Ev.const ?_)
    have hl : (wordsOf l).length ≤ i := by simp [wordsOf]; omega
    rw [List.drop_of_length_le hl]
    rfl
  | succ d ih =>
    intro i s hd hi h0 h1
    have hw := wordAt_range l hok i
    obtain ⟨hj, hj0, hj1⟩ := join_eq s (wordAt l i) h0 h1 hw.1 hw.2
    have hr0 := hok (2 * i)
    have hr1 := hok (2 * i + 1)
    have e0 : rd l ((2 * i : Nat) : Int) = l.getD (2 * i) 0 := rfl
    have w1 : wrap64 (((2 * i : Nat) : Int) + 1) = ((2 * i + 1 : Nat) : Int) := by unfold wrap64; omega
    have w2 : wrap64 (((2 * i : Nat) : Int) + 2) = ((2 * (i + 1) : Nat) : Int) := by unfold wrap64; omega
    have e1 : rd l ((2 * i + 1 : Nat) : Int) = l.getD (2 * i + 1) 0 := rfl
    rw [wordsOf_drop l i (by omega), List.foldl_cons]
    refine Ev.succ (g := fun k => stolonref02_Of.l0 k l (joinS s (wordAt l i)) ((2 * (i + 1) : Nat) : Int)) (fun k => ?_) (ih (i + 1) _ (by omega) (by omega) hj0 hj1)
    simp only [stolonref02_Of.l0]
    rw [if_pos (by omega), if_pos (by omega), w1, w2, e0, e1]
    by_cases h2 : 2 * i + 1 < l.length
    · rw [if_pos (by omega), if_pos (by omega)]
      have e : IntKind.u16.wrap (wrap64 (wrap64 (wrap64 (l.getD (2 * i) 0) * 256) + wrap64 (l.getD (2 * i + 1) 0))) = wordAt l i := by
        have e2 : wrap64 (wrap64 (wrap64 (l.getD (2 * i) 0) * 256) + wrap64 (l.getD (2 * i + 1) 0)) = wordAt l i := by
          unfold wordAt wrap64
          rw [if_pos h2]
          omega
        rw [e2, u16_same _ hw.1 hw.2]
      rw [e, hj]
      rfl
    · rw [if_neg (by omega)]
      have e : IntKind.u16.wrap (wrap64 (wrap64 (l.getD (2 * i) 0) * 256)) = wordAt l i := by
        have e2 : wrap64 (wrap64 (l.getD (2 * i) 0) * 256) = wordAt l i := by
          unfold wordAt wrap64
          rw [if_neg h2]
          omega
        rw [e2, u16_same _ hw.1 hw.2]
      rw [e, hj]
      rfl
theorem foldl_range (ws : List Int) (h : ∀ x ∈ ws, 0 ≤ x ∧ x ≤ 65535) : ∀ s, 0 ≤ s → s ≤ 65535 → 0 ≤ ws.foldl joinS s ∧ ws.foldl joinS s ≤ 65535 := by
  induction ws with
  | nil => exact fun s h0 h1 => ⟨h0, h1⟩
  | cons a ws ih =>
    intro s h0 h1
    have ha := h a (List.mem_cons_self ..)
    obtain ⟨_, h2, h3⟩ := join_eq s a h0 h1 ha.1 ha.2
    exact ih (fun x hx => h x (List.mem_cons_of_mem _ hx)) _ h2 h3
theorem sum_range (l : List Int) (hok : bytesOk l) : 0 ≤ sum16 (wordsOf l) ∧ sum16 (wordsOf l) ≤ 65535 := by
  refine foldl_range _ (fun x hx => ?_) 0 (by omega) (by omega)
  simp only [wordsOf, List.mem_map] at hx
  obtain ⟨i, _, rfl⟩ := hx
  exact wordAt_range l hok i
theorem of_f (l : List Int) (hok : bytesOk l) (hn : l.length ≤ 140737488355328) : Ev (fun k => stolonref02_Of.f k l) (turned16 (sum16 (wordsOf l))) := by
  have hs := sum_range l hok
  rw [turned16_eq _ hs.1 hs.2]
  exact of_l0 l hok hn _ 0 0 rfl (by omega) (by omega) (by omega)
theorem put_l0 (l : List Int) (h4 : 4 ≤ l.length) (hok : bytesOk ((l.set 2 0).set 3 0)) (hn : l.length ≤ 140737488355328) (d : Nat) : ∀ i : Nat, l.length - i = d → i ≤ l.length → Ev (fun k => stolonref02_Put.l0 k l 2 (((l.set 2 0).set 3 0).take i) (i : Int)) (put2 l, 0) := by
  induction d with
  | zero =>
    intro i hd hi
    have hL : ((l.set 2 0).set 3 0).length = l.length := by simp
    obtain ⟨L, hLe⟩ : ∃ L, (l.set 2 0).set 3 0 = L := ⟨_, rfl⟩
    rw [hLe] at hL hok
    have hs := sum_range L hok
    have ht := turned16_eq _ hs.1 hs.2
    refine Ev.succ (fun k => by simp only [stolonref02_Put.l0]; rw [if_neg (by omega), hLe, List.take_of_length_le (by omega)]) ?_
    refine Ev.bind (of_f L hok (by omega)) (Ev.const ?_)
    have w3 : wrap64 ((2 : Int) + 1) = 3 := by unfold wrap64; omega
    rw [w3]
    rw [if_pos (by omega), if_pos (by omega), if_pos (by omega), if_pos (by omega)]
    unfold put2
    rw [hLe]
    generalize turned16 (sum16 (wordsOf L)) = t at ht
    have h0 : 0 ≤ t := by omega
    rw [Int.tdiv_eq_ediv_of_nonneg h0, Int.tmod_eq_emod_of_nonneg h0, u16_same _ (by omega) (by omega)]
    have e : t % 256 % 256 = t % 256 := by omega
    rw [e]
    rfl
  | succ d ih =>
    intro i hd hi
    have hiL : i < ((l.set 2 0).set 3 0).length := by simp; omega
    have hil : i < l.length := by omega
    have hx := ih (i + 1) (by omega) (by omega)
    rw [List.take_succ_eq_append_getElem hiL] at hx
    have hlen : (((l.set 2 0).set 3 0).take i).length < 140737488355328 := by simp; omega
    have w3 : wrap64 ((2 : Int) + 1) = 3 := by unfold wrap64; omega
    refine Ev.succ (fun k => ?_) hx
    simp only [stolonref02_Put.l0]
    rw [if_pos (by omega), w3]
    by_cases e2 : i = 2
    · subst e2
      rw [if_pos (show ((2 : Nat) : Int) = 2 from rfl), if_pos hlen, wrap_succ 2 l.length hil (by omega)]
      simp
    · rw [if_neg (by omega)]
      by_cases e3 : i = 3
      · subst e3
        rw [if_pos (show ((3 : Nat) : Int) = 3 from rfl), if_pos hlen, wrap_succ 3 l.length hil (by omega)]
        simp
      · rw [if_neg (by omega), if_pos (by omega), if_pos hlen, wrap_succ i l.length hil (by omega), rd_eq l i hil]
        rw [List.getElem_set_ne (by omega), List.getElem_set_ne (by omega)]
theorem okBytes_iff (l : List Int) : okBytes l = true ↔ ∀ x ∈ l, 0 ≤ x ∧ x ≤ 255 := by
  simp [okBytes]
theorem ref_put (l : List Int) (h4 : 4 ≤ l.length) (hok : okBytes l = true) (hn : l.length ≤ 140737488355328) : Ev (fun k => stolonref02_Put.f k l 2) (put2 l, 0) := by
  have hok2 : okBytes ((l.set 2 0).set 3 0) = true := by
    rw [okBytes_iff] at hok ⊢
    intro x hx
    rcases List.mem_or_eq_of_mem_set hx with hx | rfl
    · rcases List.mem_or_eq_of_mem_set hx with hx | rfl
      · exact hok x hx
      · omega
    · omega
  have h := put_l0 l h4 (bytesOk_of hok2) hn _ 0 rfl (by omega)
  unfold stolonref02_Put.f
  have hw : decide ((2 : Int) > wrap64 ((l.length : Int) - 2)) = false := by
    have : wrap64 ((l.length : Int) - 2) = (l.length : Int) - 2 := by unfold wrap64; omega
    rw [this]
    exact decide_eq_false (by omega)
  refine Ev.congr (g := fun k => stolonref02_Put.j0 k l 2 false) (fun k => by rw [if_neg (by decide), if_neg (by decide), hw]) ?_
  exact Ev.succ (fun k => by simp only [stolonref02_Put.j0]; rw [if_neg (by decide)]; rfl) h
end Go.Proofs.Ytafmjhmpnlkeiaa.P

/- The plain law, seventh part: Encode. -/
namespace Go.Proofs.Ytafmjhmpnlkeiaa.P
open Go.RowKit Go.Proofs.YtafmjhmpnlkeiaaW.PrintWords Go.Proofs.YtafmjhmpnlkeiaaW.PrintLast Go.Proofs.YtafmjhmpnlkeiaaW.PrintMore
set_option linter.unusedVariables false
set_option linter.unusedSimpArgs false

def okA (a : Int) : Prop := 0 ≤ a ∧ a < 4294967296
def okB (a : Int) : Prop := 0 ≤ a ∧ a ≤ 255
theorem refBytes_ok (a : Int) : ∀ x ∈ refBytes a, okB x := by
  intro x hx
  have h : x = a.tdiv 16777216 % 4294967296 % 256 ∨ x = a.tdiv 65536 % 4294967296 % 256 ∨ x = a.tdiv 256 % 4294967296 % 256 ∨ x = a.tmod 256 % 256 := by simpa [refBytes, stolonref01_Bytes.f] using hx
  unfold okB
  omega
theorem addrBytes_ok (a : Int) (h : okA a) : ∀ x ∈ addrBytes a, okB x := by
  rw [addrBytes_ref a h.1 h.2]
  exact refBytes_ok a
theorem layAddrs_ok (l : List Int) (h : ∀ a ∈ l, okA a) : ∀ x ∈ layAddrs l, okB x := by
  intro x hx
  simp only [layAddrs, List.mem_flatMap] at hx
  obtain ⟨a, ha, hx⟩ := hx
  exact addrBytes_ok a (h a ha) x hx
theorem lenBytes_ok (l : List Int) : ∀ x ∈ lenBytes l, okB x := by
  intro x hx
  have h : x = (l.length : Int) / 256 % 256 ∨ x = (l.length : Int) % 256 := by simpa [lenBytes] using hx
  unfold okB
  omega
theorem rows_l0 (b l : List Int) (hl : ∀ a ∈ l, okA a) (hn : b.length + 4 * l.length < 140737488355328) (d : Nat) : ∀ x : Nat, l.length - x = d → x ≤ l.length → Ev (fun k => stolonref05_rows.l0 k (b ++ layAddrs (l.take x)) l (x : Int)) (b ++ layAddrs l) := by
  induction d with
  | zero =>
    intro x hd hx
    refine Ev.succ (g := fun _ => some (b ++ layAddrs l)) (fun k => by simp only [stolonref05_rows.l0]; rw [if_neg (by omega), List.take_of_length_le (by omega)]) (Ev.const rfl)
  | succ d ih =>
    intro x hd hx
    have hxl : x < l.length := by omega
    have h := ih (x + 1) (by omega) (by omega)
    have ha := hl _ (List.getElem_mem hxl)
    rw [layAddrs_take l x hxl, addrBytes_ref _ ha.1 ha.2] at h
    have h1 : (b ++ layAddrs (l.take x)).length + (refBytes l[x]).length < 140737488355328 := by
      rw [List.length_append, layAddrs_length, List.length_take]
      have : (refBytes l[x]).length = 4 := rfl
      omega
    refine Ev.succ (fun k => ?_) h
    simp only [stolonref05_rows.l0]
    rw [if_pos (by omega), if_pos (by omega), rd_eq l x hxl, refBytes_f]
    simp only [Option.bind_some]
    rw [if_pos h1, wrap_succ x l.length hxl (by omega), List.append_assoc]
theorem rows_f (b g l : List Int) (hl : ∀ a ∈ l, okA a) (hn : b.length + 2 + g.length + 4 * l.length < 140737488355328) : Ev (fun k => stolonref05_rows.f k b g l) (b ++ (lenBytes l ++ g) ++ layAddrs l) := by
  have h := rows_l0 (b ++ lenBytes l ++ g) l hl (by simp [lenBytes]; omega) _ 0 rfl (by omega)
  have e : [wrap64 ((l.length : Int) / 256) % 256, (l.length : Int) % 256] = lenBytes l := by
    have : wrap64 ((l.length : Int) / 256) = (l.length : Int) / 256 := by unfold wrap64; omega
    rw [this]
    rfl
  unfold stolonref05_rows.f
  simp only [Option.bind_some]
  rw [e]
  have hb : b.length + (lenBytes l).length < 140737488355328 := by simp [lenBytes]; omega
  have hc : (b ++ lenBytes l).length + g.length < 140737488355328 := by simp [lenBytes]; omega
  refine Ev.congr (g := fun k => stolonref05_rows.l0 k (b ++ lenBytes l ++ g) l 0) (fun k => by rw [if_pos hb, if_pos hc]) ?_
  have e2 : b ++ (lenBytes l ++ g) = b ++ lenBytes l ++ g := by simp
  rw [e2]
  simpa [layAddrs] using h
def okR (r : S44) : Prop := okB r.f0 ∧ okA r.f1 ∧ ∀ a ∈ r.f2, okA a
theorem recBytes_ok (r : S44) (h : okR r) : ∀ x ∈ recBytes r, okB x := by
  intro x hx
  obtain ⟨h0, h1, h2⟩ := h
  simp only [recBytes, List.mem_append, List.mem_cons, List.not_mem_nil, or_false, false_or] at hx
  rcases hx with (rfl | rfl) | (hx | hx) | hx
  · exact h0
  · unfold okB; omega
  · exact lenBytes_ok _ x hx
  · exact addrBytes_ok _ h1 x hx
  · exact layAddrs_ok _ h2 x hx
theorem recs_f (l : List S44) : ∀ b : List Int, (∀ r ∈ l, okR r) → b.length + (recsBytes l).length + 2 < 140737488355328 → Ev (fun k => refRecs k b l) (b ++ recsBytes l) := by
  induction l with
  | nil => exact fun b _ _ => Ev.const (by simp [recsBytes])
  | cons a l ih =>
    intro b h hn
    have ha := h a (List.mem_cons_self ..)
    have e : recsBytes (a :: l) = recBytes a ++ recsBytes l := rfl
    rw [e] at hn ⊢
    rw [List.length_append, recBytes_length] at hn
    have hb : b.length + 2 ≤ 140737488355328 := by omega
    have hr := rows_f (b ++ [a.f0, 0]) (refBytes a.f1) a.f2 ha.2.2 (by
      have : (refBytes a.f1).length = 4 := rfl
      simp [this]
      omega)
    have e2 : b ++ [a.f0, 0] ++ (lenBytes a.f2 ++ refBytes a.f1) ++ layAddrs a.f2 = b ++ recBytes a := by
      unfold recBytes
      rw [addrBytes_ref _ ha.2.1.1 ha.2.1.2]
      simp
    rw [e2] at hr
    refine Ev.congr (fun k => by simp only [refRecs]; rw [if_pos hb]) (Ev.bind hr ?_)
    refine (ih (b ++ recBytes a) (fun r hr => h r (List.mem_cons_of_mem _ hr)) (by rw [List.length_append, recBytes_length]; omega)).val (by simp)
theorem flags_eq (q : Bool) (rb : Int) (h0 : 0 ≤ rb) (h1 : rb < 8) : flagsOf q rb = refFlags q rb := by
  have : rb = 0 ∨ rb = 1 ∨ rb = 2 ∨ rb = 3 ∨ rb = 4 ∨ rb = 5 ∨ rb = 6 ∨ rb = 7 := by omega
  rcases this with rfl | rfl | rfl | rfl | rfl | rfl | rfl | rfl <;> cases q <;> rfl
/-- In the ranges of the Go types. -/
def Msg.ok (m : Msg) : Prop := okB m.kind ∧ okB m.code ∧ okA m.group ∧ okB m.robust ∧ okB m.every ∧ (∀ a ∈ m.srcs, okA a) ∧ ∀ r ∈ m.recs, okR r
theorem recsBytes_len (l : List S44) (h : l.any oddRec = false) : (recsBytes l).length ≤ 264 * l.length := by
  induction l with
  | nil => simp [recsBytes]
  | cons a l ih =>
    rw [List.any_cons, Bool.or_eq_false_iff] at h
    have e : recsBytes (a :: l) = recBytes a ++ recsBytes l := rfl
    have ha : a.f2.length ≤ 64 := by
      have := h.1
      unfold oddRec at this
      simp at this
      omega
    have := ih h.2
    rw [e, List.length_append, recBytes_length, List.length_cons]
    omega
theorem right_sizes (m : Msg) (h : rightV m = true) : (m.kind = 34 → (recsBytes m.recs).length ≤ 8448 ∧ m.ver = 0) ∧ (m.ver = 3 → m.srcs.length ≤ 64 ∧ m.robust < 8 ∧ m.kind ≠ 34) := by
  unfold rightV at h
  by_cases h34 : m.kind = 34
  · rw [if_pos h34] at h
    simp only [Bool.and_eq_true, decide_eq_true_eq, Bool.not_eq_true'] at h
    obtain ⟨⟨⟨⟨⟨_, hv⟩, _⟩, _⟩, hl⟩, ho⟩ := h
    have := recsBytes_len _ ho
    exact ⟨fun _ => ⟨by omega, hv⟩, fun hv3 => by omega⟩
  · rw [if_neg h34] at h
    refine ⟨fun e => absurd e h34, fun hv3 => ?_⟩
    split at h
    · cases h
    split at h
    · simp only [Bool.and_eq_true, decide_eq_true_eq] at h
      omega
    split at h
    · (try rw [if_neg (show ¬ m.ver = 1 by omega)] at h)
      (try rw [if_neg (show ¬ m.ver = 2 by omega)] at h)
      (try rw [if_pos hv3] at h)
      simp only [Bool.and_eq_true, decide_eq_true_eq] at h
      exact ⟨h.1.2, h.1.1, h34⟩
    · cases h
def Msg.body (m : Msg) : List Int := encBody m.kind m.ver m.code m.group m.quiet m.robust m.every m.srcs m.recs
theorem body_ok (m : Msg) (hm : m.ok) (h : rightV m = true) : okBytes m.body = true ∧ 4 ≤ m.body.length ∧ m.body.length ≤ 10000 := by
  obtain ⟨k0, k1, k2, k3, k4, k5, k6⟩ := hm
  obtain ⟨s1, s2⟩ := right_sizes m h
  have hlenB : (bodyB m.kind m.group m.recs).length ≤ 8452 ∧ ∀ x ∈ bodyB m.kind m.group m.recs, okB x := by
    unfold bodyB
    split
    case isTrue e =>
      refine ⟨by have := (s1 e).1; simp; omega, ?_⟩
      intro x hx
      rw [List.mem_append] at hx
      rcases hx with hx | hx
      · have : x = 0 ∨ x = (m.recs.length : Int) % 256 := by simpa using hx
        unfold okB
        omega
      · simp only [recsBytes, List.mem_flatMap] at hx
        obtain ⟨r, hr, hx⟩ := hx
        exact recBytes_ok r (k6 r hr) x hx
    case isFalse => exact ⟨by rw [addrBytes_length]; omega, addrBytes_ok _ k2⟩
  have hlenC : (bodyC m.ver m.quiet m.robust m.every m.srcs).length ≤ 300 ∧ ∀ x ∈ bodyC m.ver m.quiet m.robust m.every m.srcs, okB x := by
    unfold bodyC
    split
    case isTrue e =>
      obtain ⟨t1, t2, _⟩ := s2 e
      refine ⟨by have := layAddrs_length m.srcs; simp [lenBytes]; omega, ?_⟩
      intro x hx
      rw [flags_eq _ _ k3.1 t2] at hx
      simp only [List.mem_append, List.mem_cons, List.not_mem_nil, or_false] at hx
      rcases hx with (rfl | rfl) | hx | hx
      · unfold refFlags okB
        have := k3.1
        split <;> omega
      · exact k4
      · exact lenBytes_ok _ x hx
      · exact layAddrs_ok _ k5 x hx
    case isFalse => exact ⟨by simp, by simp⟩
  refine ⟨?_, ?_, ?_⟩
  · rw [okBytes_iff]
    intro x hx
    simp only [Msg.body, encBody, bodyA, List.mem_append, List.mem_cons, List.not_mem_nil, or_false] at hx
    rcases hx with ((rfl | rfl | rfl | rfl) | hx) | hx
    · exact k0
    · exact k1
    · omega
    · omega
    · exact hlenB.2 x hx
    · exact hlenC.2 x hx
  · simp only [Msg.body, encBody, bodyA, List.length_append, List.length_cons, List.length_nil]
    omega
  · simp only [Msg.body, encBody, bodyA, List.length_append, List.length_cons, List.length_nil]
    omega
def encV (m : Msg) : List Int × Int := if rightV m = true then (put2 m.body, 0) else ([], 1)
theorem enc7 (m : Msg) (hs : m.short) (hm : m.ok) : Ev (fun k => igmp_Encode.f k m.kind m.ver m.code m.group m.quiet m.robust m.every m.srcs m.recs) (encV m) := by
  unfold igmp_Encode.f encV
  refine Ev.bind (right9 m hs) ?_
  refine Ev.ite (fun h => ?_) (fun h => ?_)
  · rw [if_pos h]
    obtain ⟨b1, b2, b3⟩ := body_ok m hm h
    refine Ev.const ?_
    show (if m.body.length + 8 ≤ 140737488355328 then sum_Put.f m.body 2 else none) = _
    rw [if_pos (by omega)]
    unfold sum_Put.f
    rw [if_pos ⟨b1, rfl, b2, by omega⟩]
  · rw [if_neg h]
    exact Ev.const rfl
theorem enc8 (m : Msg) (hs : m.short) (hm : m.ok) : Ev (fun k => stolonref05_Encode.f k m.kind m.ver m.code m.group m.quiet m.robust m.every m.srcs m.recs) (encV m) := by
  unfold stolonref05_Encode.f encV
  refine Ev.bind (right10 m hs) ?_
  refine Ev.ite (fun h => ?_) (fun h => ?_)
  · rw [if_pos h]
    obtain ⟨b1, b2, b3⟩ := body_ok m hm h
    obtain ⟨s1, s2⟩ := right_sizes m h
    obtain ⟨k0, k1, k2, k3, k4, k5, k6⟩ := hm
    have hB : Ev (fun k => refB k m.kind m.code m.group m.recs) (bodyA m.kind m.code ++ bodyB m.kind m.group m.recs) := by
      unfold refB bodyB
      refine Ev.ite (fun e => ?_) (fun e => ?_)
      · rw [if_pos e]
        have := (s1 e).1
        refine (recs_f m.recs _ k6 (by simp; omega)).val (by simp [bodyA])
      · rw [if_neg e]
        exact Ev.const (by rw [addrBytes_ref _ k2.1 k2.2]; rfl)
    refine Ev.bind hB ?_
    have hC : Ev (fun k => refC k m.ver m.quiet m.robust m.every m.srcs (bodyA m.kind m.code ++ bodyB m.kind m.group m.recs)) m.body := by
      have hlen : (bodyA m.kind m.code ++ bodyB m.kind m.group m.recs).length ≤ m.body.length := by
        simp only [Msg.body, encBody, List.length_append]
        omega
      unfold refC
      refine Ev.ite (fun e => ?_) (fun e => ?_)
      · obtain ⟨t1, t2, _⟩ := s2 e
        refine Ev.congr (fun k => if_pos (by omega)) ?_
        refine (rows_f _ [] m.srcs k5 (by simp only [List.length_append, List.length_cons, List.length_nil] at hlen ⊢; omega)).val ?_
        simp only [Msg.body, encBody, bodyC]
        rw [if_pos e, flags_eq _ _ k3.1 t2]
        simp
      · refine Ev.const ?_
        simp only [Msg.body, encBody, bodyC]
        rw [if_neg e]
        simp
    refine Ev.bind hC ?_
    exact ref_put m.body b2 b1 (by omega)
  · rw [if_neg h]
    exact Ev.const rfl
end Go.Proofs.Ytafmjhmpnlkeiaa.P

/- Printed by myprint.py, a program of this session, over the kit's print. -/
namespace Go.Proofs.Ytafmjhmpnlkeiaa.P
open Go.RowKit Go.Proofs.YtafmjhmpnlkeiaaW.PrintWords Go.Proofs.YtafmjhmpnlkeiaaW.PrintLast Go.Proofs.YtafmjhmpnlkeiaaW.PrintMore
attribute [local go_sem] max2_int min2_int max_two min_two max_three min_three max_four min_four   -- for this text's walks alone
set_option linter.unusedVariables false
set_option linter.unusedSimpArgs false

/-! ### addr_Of: function 57 -/
def addr_Of.l0 : Nat → Int → List Int → Int → Int → Option (Int × Int)
  | 0, _, _, _, _ => none
  | k + 1, x4, x15, x16, x17 => if x17 < x16 then (if 0 ≤ x17 then (if x17 < (x15.length : Int) then (addr_Of.l0 k (Go.bits .or .u32 ((x4 * 256) % 4294967296) ((rd x15 x17) % 4294967296)) x15 x16 (wrap64 (x17 + 1))) else (none)) else (none)) else (some (x4, 0))
def addr_Of.f (k : Nat) (l0 : List Int) : Option (Int × Int) := if (l0.length : Int) < 4 then (some (0, 3)) else (if (l0.length : Int) > 4 then (some (0, 2)) else (addr_Of.l0 k 0 l0 (l0.length : Int) 0))
theorem addr_Of.mono_l : ∀ k, (∀ y0 y1 y2 y3, LeO (addr_Of.l0 k y0 y1 y2 y3) (addr_Of.l0 (k + 1) y0 y1 y2 y3))
  | 0 => fun _ _ _ _ r h => by simp [addr_Of.l0] at h
  | k + 1 => by
    have ih0 := addr_Of.mono_l k
    · intro y0 y1 y2 y3
      unfold addr_Of.l0
      repeat' first
      | (with_reducible exact ih0 _ _ _ _)
      | (with_reducible exact LeO.refl _)
      | (with_reducible exact LeO.none _)
      | (with_reducible refine LeO.ite ?_ ?_)
      | (with_reducible refine LeO.bind ?_ (fun _ => ?_))
      | exact ih0 _ _ _ _
      | exact LeO.none _
      | refine LeO.ite ?_ ?_
      | refine LeO.bind ?_ (fun _ => ?_)
theorem addr_Of.mono : ∀ a0 k, LeO (addr_Of.f k a0) (addr_Of.f (k + 1) a0) := by
  intro a0 k
  have ih0 := addr_Of.mono_l k
  unfold addr_Of.f
  repeat' first
      | (with_reducible exact ih0 _ _ _ _)
      | (with_reducible exact LeO.refl _)
      | (with_reducible exact LeO.none _)
      | (with_reducible refine LeO.ite ?_ ?_)
      | (with_reducible refine LeO.bind ?_ (fun _ => ?_))
      | exact ih0 _ _ _ _
      | exact LeO.none _
      | refine LeO.ite ?_ ?_
      | refine LeO.bind ?_ (fun _ => ?_)
set_option maxHeartbeats 8000000 in
set_option maxRecDepth 100000 in
theorem addr_Of.calls (k : Nat) (A0 : Option Addr) (c0 : Nat) (l0 : List Int) (r1 : Int) (r2 : Int) (w : World) (hr0 : Kd.C (Kd.int .u8) w A0 l0.length l0) (hc0 : l0.length ≤ c0) (h : addr_Of.f k l0 = some (r1, r2)) :
    Calls Try.prog 57 #[.slice A0 l0.length c0] w fun e w' => e = .returned (.tuple #[.int .u32 r1, .int .i64 r2]) ∧ Drawn0 w w' := by
  have HR0 := Aside0.mk hr0
  have HC0 := Aside0.mk hc0
  clear hr0 hc0
  have H : (if (l0.length : Int) < 4 then (some (0, 3)) else (if (l0.length : Int) > 4 then (some (0, 2)) else (addr_Of.l0 k 0 l0 (l0.length : Int) 0))) = some (r1, r2) := h
  clear h
  by_cases c2 : (l0.length : Int) < 4
  · rw [if_pos c2] at H
    have c2b0 : decide ((l0.length : Int) < 4) = true := decide_eq_true c2
    have c2b1 : decide (l0.length < 4) = true := decide_eq_true (by omega)
    clear c2
    simp only [Option.some.injEq, Prod.mk.injEq] at H
    obtain ⟨rfl, rfl⟩ := H
    go_enter Try.func57, Try.ntmps57
    go_wp2
    go_ret2
    exact ⟨by first | rfl | (simp; done) | (simp [*]; done), by repeat (first | exact Drawn0.refl _ | apply Drawn0.step)⟩
  · rw [if_neg c2] at H
    have c2b0 : decide ((l0.length : Int) < 4) = false := decide_eq_false c2
    have c2b1 : decide (l0.length < 4) = false := decide_eq_false (by omega)
    clear c2
    by_cases c3 : (l0.length : Int) > 4
    · rw [if_pos c3] at H
      have c3b0 : decide (4 < (l0.length : Int)) = true := decide_eq_true c3
      have c3b1 : decide (4 < l0.length) = true := decide_eq_true (by omega)
      clear c3
      simp only [Option.some.injEq, Prod.mk.injEq] at H
      obtain ⟨rfl, rfl⟩ := H
      go_enter Try.func57, Try.ntmps57
      go_wp2
      go_ret2
      exact ⟨by first | rfl | (simp; done) | (simp [*]; done), by repeat (first | exact Drawn0.refl _ | apply Drawn0.step)⟩
    · rw [if_neg c3] at H
      have c3b0 : decide (4 < (l0.length : Int)) = false := decide_eq_false c3
      have c3b1 : decide (4 < l0.length) = false := decide_eq_false (by omega)
      clear c3
      have H' := Aside0.mk H
      clear H
      go_enter Try.func57, Try.ntmps57
      go_wp2
      go_loopg [4, 17] k (fun kq v4 v17 w' => ∃ (x4_1 : Int) (x17_1 : Int), v4 = .int .u32 x4_1 ∧ v17 = .int .i64 x17_1 ∧ Aside0 (addr_Of.l0 kq x4_1 l0 (l0.length : Int) x17_1 = some (r1, r2)) ∧ Aside0 (kq ≤ k) ∧ Drawn0 w w')
      case atStart => exact ⟨(0), (0), (by first | rfl | (simp; done) | (simp [*]; done)), (by first | rfl | (simp; done) | (simp [*]; done)), H', ⟨Nat.le_refl _⟩, by repeat (first | exact Drawn0.refl _ | apply Drawn0.step)⟩
      case round =>
        clear H'
        try clear c2
        try clear c2b0
        try clear c2b1
        try clear p2
        try clear c3
        try clear c3b0
        try clear c3b1
        obtain ⟨x4_1, x17_1, rfl, rfl, HA, HK1, ⟨m1, rfl⟩⟩ := hrel
        cases gk with
        | zero => exact absurd HA.out (by simp [addr_Of.l0])
        | succ k1 =>
          have H := HA.out
          clear HA
          simp only [addr_Of.l0] at H
          by_cases c4 : x17_1 < (l0.length : Int)
          · rw [if_pos c4] at H
            have c4b0 : decide (x17_1 < (l0.length : Int)) = true := decide_eq_true c4
            clear c4
            by_cases c5 : 0 ≤ x17_1
            · rw [if_pos c5] at H
              have c5b0 : decide (0 ≤ x17_1) = true := decide_eq_true c5
              clear c5
              by_cases c6 : x17_1 < (l0.length : Int)
              · rw [if_pos c6] at H
                have c6b0 : decide (x17_1 < (l0.length : Int)) = true := decide_eq_true c6
                clear c6
                have H' := Aside0.mk H
                clear H
                have p309 : 0 ≤ (x17_1 : Int) := of_decide_eq_true (by first | (with_reducible assumption) | assumption)
                have q309 : x17_1 < (l0.length : Int) := of_decide_eq_true (by first | (with_reducible assumption) | assumption)
                obtain ⟨ad309, e309, hx309_0⟩ := Kd.at_int HR0.out x17_1 p309 q309
                cases e309
                replace p309 := eq_true p309
                replace q309 := eq_true q309
                go_wp2
                go_roundg k1
                case measure => have := HK1.out; omega
                case rel => exact ⟨(Go.bits .or .u32 ((x4_1 * 256) % 4294967296) ((rd l0 x17_1) % 4294967296)), (wrap64 (x17_1 + 1)), (by first | rfl | (simp; done) | (simp [*]; done)), (by first | rfl | (simp; done) | (simp [*]; done)), H', ⟨by have := HK1.out; omega⟩, by repeat (first | exact Drawn0.refl _ | apply Drawn0.step)⟩
              · rw [if_neg c6] at H
                exact absurd H (by simp)
            · rw [if_neg c5] at H
              exact absurd H (by simp)
          · rw [if_neg c4] at H
            have c4b0 : decide (x17_1 < (l0.length : Int)) = false := decide_eq_false c4
            clear c4
            simp only [Option.some.injEq, Prod.mk.injEq] at H
            obtain ⟨rfl, rfl⟩ := H
            go_wp2
            go_ret2
            exact ⟨by first | rfl | (simp; done) | (simp [*]; done), by repeat (first | exact Drawn0.refl _ | apply Drawn0.step)⟩

end Go.Proofs.Ytafmjhmpnlkeiaa.P

/- The reader, on four bytes: take, addr, plain. -/
namespace Go.Proofs.Ytafmjhmpnlkeiaa.P
open Go.RowKit Go.Proofs.YtafmjhmpnlkeiaaW.PrintWords Go.Proofs.YtafmjhmpnlkeiaaW.PrintLast Go.Proofs.YtafmjhmpnlkeiaaW.PrintMore
set_option linter.unusedVariables false
set_option linter.unusedSimpArgs false

/-- A reader's cells. -/
def rdCells (v0 : Value) (a : Int) (v8 v9 : Value) : Array Value := #[v0, .int .u8 22, .int .i64 0, .int .u8 0, .int .u32 a, .bool false, .int .u8 0, .int .u8 0, v8, v9, .bool false]
theorem rd_cell {X : World} {b : Nat} {cs : Array Value} {t : TypeId} (h : X.heap[b]? = some (.cells cs t (0, 0))) (i : Nat) (v : Value) (hv : cs[i]? = some v) : X.cell? ⟨b, i, none⟩ = some v := by
  simp [World.cell?, h, hv]
theorem rd_frozen {X : World} {b : Nat} {cs : Array Value} {t : TypeId} (h : X.heap[b]? = some (.cells cs t (0, 0))) (i : Nat) : X.frozen? ⟨b, i, none⟩ = false := by
  simp [World.frozen?, h]
theorem rd_set {X : World} {b : Nat} {cs : Array Value} {t : TypeId} (h : X.heap[b]? = some (.cells cs t (0, 0))) (i : Nat) (u : Value) (hi : i < cs.size) : (X.setCell ⟨b, i, none⟩ u).heap[b]? = some (.cells (cs.setIfInBounds i u) t (0, 0)) := by
  simp [World.setCell, Array.getElem?_modify, h]
set_option maxHeartbeats 1000000 in
set_option maxRecDepth 100000 in
theorem take4 (w : World) (g : Nat) (ad : Addr) (c : Nat) (a : Int) (v8 v9 : Value) (hc : 4 ≤ c) (hW : w.heap[g]? = some (.cells (rdCells (.slice (some ad) 4 c) a v8 v9) 63 (0, 0))) :
    Calls Try.prog 49 #[.pointer (some ⟨g, 0, none⟩), .int .i64 4] w fun e w' => ∃ A1 c1 c2, e = .returned (.slice (some ad) 4 c2) ∧ 4 ≤ c2 ∧ w' = w.setCell ⟨g, 0, none⟩ (.slice A1 0 c1) := by
  have k0 : w.cell? ⟨g, 0, none⟩ = some (.slice (some ad) 4 c) := rd_cell hW 0 _ rfl
  have k1 : w.cell? ⟨g, 10, none⟩ = some (.bool false) := rd_cell hW 10 _ rfl
  have k2 := rd_frozen hW 0
  go_enter Try.func49, Try.ntmps49
  go_wp2_with fail
  all_goals
    go_ret
    exact ⟨_, _, _, rfl, by omega, rfl⟩
theorem addr_Of_ex : addr_Of.f 5 [239, 1, 2, 3] = some (4009820675, 0) := by kernel_rfl
theorem setg (w0 w : World) (g : Nat) (u : Value) (hg : w0.heap.size ≤ g) (hb : Below w0.heap.size w0 w) : Below w0.heap.size w0 (w.setCell ⟨g, 0, none⟩ u) := hb.setCell (p := ⟨g, 0, none⟩) hg _
set_option maxHeartbeats 1000000 in
set_option maxRecDepth 100000 in
theorem addr4 (w0 w : World) (g : Nat) (ad : Addr) (c : Nat) (a : Int) (v8 v9 : Value) (hc : 4 ≤ c) (hW : w.heap[g]? = some (.cells (rdCells (.slice (some ad) 4 c) a v8 v9) 63 (0, 0))) (hg : w0.heap.size ≤ g) (hb : Below w0.heap.size w0 w) (hC : Kd.C (Kd.int .u8) w0 (some ad) 4 [239, 1, 2, 3]) :
    Calls Try.prog 52 #[.pointer (some ⟨g, 0, none⟩)] w fun e w' => ∃ A1 c1, e = .returned (.int .u32 4009820675) ∧ w'.heap[g]? = some (.cells (rdCells (.slice A1 0 c1) a v8 v9) 63 (0, 0)) ∧ Below w0.heap.size w0 w' := by
  have HC := Aside0.mk hC
  have HB := Aside0.mk hb
  have HW := Aside0.mk hW
  clear hC hb hW
  go_enter Try.func52, Try.ntmps52
  go_wp2_with fail
  refine (take4 w g ad c a v8 v9 hc HW.out).mono ?_
  rintro e w1 ⟨A1, c1, c2, rfl, hc2, rfl⟩
  have HB1 := Aside0.mk (setg w0 w g (.slice A1 0 c1) hg HB.out)
  have HW1 : Aside0 ((w.setCell ⟨g, 0, none⟩ (.slice A1 0 c1)).heap[g]? = some (.cells (rdCells (.slice A1 0 c1) a v8 v9) 63 (0, 0))) := ⟨rd_set HW.out 0 _ (by simp [rdCells])⟩
  obtain ⟨w1, hw1⟩ : ∃ w1, w.setCell ⟨g, 0, none⟩ (.slice A1 0 c1) = w1 := ⟨_, rfl⟩
  rw [hw1] at HB1 HW1
  rw [hw1]
  clear hw1
  go_wp2_with fail
  refine (addr_Of.calls 5 (some ad) c2 [239, 1, 2, 3] 4009820675 0 w1 (Kd.C_below HC.out HB1.out) hc2 addr_Of_ex).mono ?_
  rintro e w2 ⟨rfl, hd⟩
  have HD := Aside0.mk hd
  clear hd
  go_wp2
  go_ret
  refine ⟨A1, c1, rfl, ?_, HB1.out.trans (HD.out.below.mono HB1.out.size)⟩
  exact (HD.out.below.block _ (Array.getElem?_eq_some_iff.1 HW1.out).1).trans HW1.out
set_option maxHeartbeats 1000000 in
set_option maxRecDepth 100000 in
theorem plain4 (w0 w : World) (g : Nat) (ad : Addr) (c : Nat) (a : Int) (v8 v9 : Value) (hc : 4 ≤ c) (hW : w.heap[g]? = some (.cells (rdCells (.slice (some ad) 4 c) a v8 v9) 63 (0, 0))) (hg : w0.heap.size ≤ g) (hb : Below w0.heap.size w0 w) (hC : Kd.C (Kd.int .u8) w0 (some ad) 4 [239, 1, 2, 3]) :
    Calls Try.prog 36 #[.pointer (some ⟨g, 0, none⟩)] w fun e w' => ∃ A1 c1, e = .returned (.tuple #[]) ∧ w'.heap[g]? = some (.cells (rdCells (.slice A1 0 c1) 4009820675 v8 v9) 63 (0, 0)) ∧ Below w0.heap.size w0 w' := by
  have HC := Aside0.mk hC
  have HB := Aside0.mk hb
  have HW := Aside0.mk hW
  clear hC hb hW
  go_enter Try.func36, Try.ntmps36
  go_wp2_with fail
  refine (addr4 w0 w g ad c a v8 v9 hc HW.out hg HB.out HC.out).mono ?_
  rintro e w1 ⟨A1, c1, rfl, hw, hb⟩
  have HW1 := Aside0.mk hw
  have HB1 := Aside0.mk hb
  have k0 : w1.cell? ⟨g, 4, none⟩ = some (.int .u32 a) := rd_cell hw 4 _ rfl
  have k2 := rd_frozen hw 4
  clear hw hb
  go_wp2
  go_end0
  refine ⟨A1, c1, rfl, rd_set HW1.out 4 _ (by simp [rdCells]), HB1.out.setCell (p := ⟨g, 4, none⟩) hg _⟩
end Go.Proofs.Ytafmjhmpnlkeiaa.P

/- Printed by myprint.py, a program of this session, over the kit's print. -/
namespace Go.Proofs.Ytafmjhmpnlkeiaa.P
open Go.RowKit Go.Proofs.YtafmjhmpnlkeiaaW.PrintWords Go.Proofs.YtafmjhmpnlkeiaaW.PrintLast Go.Proofs.YtafmjhmpnlkeiaaW.PrintMore
attribute [local go_sem] max2_int min2_int max_two min_two max_three min_three max_four min_four   -- for this text's walks alone
set_option linter.unusedVariables false
set_option linter.unusedSimpArgs false

/-! ### sum_Whole: function 34 -/
def sum_Whole.f (l0 : List Int) : Option (Bool) := (sum_Of.f l0).bind fun t127 => (some (t127 == 0))
set_option maxHeartbeats 8000000 in
set_option maxRecDepth 100000 in
theorem sum_Whole.calls (A0 : Option Addr) (c0 : Nat) (l0 : List Int) (r : Bool) (w : World) (hr0 : Kd.C (Kd.int .u8) w A0 l0.length l0) (hc0 : l0.length ≤ c0) (h : sum_Whole.f l0 = some r) :
    Calls Try.prog 34 #[.slice A0 l0.length c0] w fun e w' => e = .returned (.bool r) ∧ Below w.heap.size w w' := by
  have HR0 := Aside0.mk hr0
  have HC0 := Aside0.mk hc0
  clear hr0 hc0
  have HB := Aside0.mk (Below.refl w.heap.size w)
  have H : ((sum_Of.f l0).bind fun t127 => (some (t127 == 0))) = some r := h
  clear h
  replace H := Option.bind_eq_some_iff.mp H
  obtain ⟨t127, A20, H⟩ := H
  replace H : (some (t127 == 0)) = some r := H
  have A2 := Aside0.mk A20
  clear A20
  obtain rfl := Option.some.inj H
  go_enter Try.func34, Try.ntmps34
  go_wp2_with (first | ((with_reducible refine gate_callee (f := 44) rfl ?_); refine goesL_ (some 4) rfl rfl Try.func44 (by kernel_rfl) rfl #[.slice A0 l0.length c0] rfl (by (try simp only [List.map_toArray, List.map_cons, List.map_nil]); first | done | rfl | (simp only [List.length_drop, List.length_take]; rfl)) ?_; (with_reducible refine (sum_Of.calls _ _ l0 t127 _ ?side1 ?side2 A2.out).mono ?_); (case side1 => repeat (first | exact HR0.out | (with_reducible refine Kd.C_alloc ?_ _) | (with_reducible refine Kd.C_drewN ?_ _) | (with_reducible refine Kd.C_drew ?_))); (case side2 => exact HC0.out); rintro e w3 ⟨rfl, hb⟩; refine ⟨_, rfl, ?_⟩; have n0_ := Aside0.mk (below_step (by repeat (first | (with_reducible first | exact HB.out | apply below_alloc | apply pw_below_drewN | apply below_drew1) | exact HB.out)) hb); clear HB; have HB := n0_; clear n0_; (try clear hb); (try clear hb2); (try clear hk); (try clear hi)))
  go_ret
  exact ⟨by first | rfl | (simp [errW_none, errW_some] <;> rfl) | (simp [*, errW_none, errW_some] <;> rfl), by repeat (first | (with_reducible first | exact HB.out | apply below_alloc | apply pw_below_drewN | apply below_drew1) | exact HB.out)⟩

end Go.Proofs.Ytafmjhmpnlkeiaa.P

/- A map with bytes for keys: what an update and a lookup do. -/
namespace Go.Proofs.Ytafmjhmpnlkeiaa.P
open Go.RowKit Go.Proofs.YtafmjhmpnlkeiaaW.PrintWords Go.Proofs.YtafmjhmpnlkeiaaW.PrintLast Go.Proofs.YtafmjhmpnlkeiaaW.PrintMore
set_option linter.unusedVariables false
set_option linter.unusedSimpArgs false

/-- A map at b with these entries, a block at g as it was, and nothing below changed. -/
structure AtMap (w0 : World) (g : Nat) (o : Obj) (b : Nat) (X : World) (es : Array MapEntry) (clock : Nat) : Prop where
  hg : X.heap[g]? = some o
  hb : X.heap[b]? = some (.map es clock)
  below : Below w0.heap.size w0 X
  ne : g ≠ b
  le : w0.heap.size ≤ b
theorem upd_run {X : World} {b : Nat} {es : Array MapEntry} {clock : Nat} {k : Int} {v : Value} (hb : X.heap[b]? = some (.map es clock)) (hf : Instr.findNow (.int .u8) (.int .u8 k) es.toList 0 = some none) :
    (Instr.mapUpdate 64 (.map (some b)) (.int .u8 k) v).run Try.prog X = .ok () { X with heap := X.heap.setIfInBounds b (.map (es.push { key := .int .u8 k, val := v, born := clock }) (clock + 1)) } := by
  have hm := Try.underlying64
  have hd := Try.underlying5
  simp [Instr.mapUpdate, run_underlying hm, MapKept.run_getObj_map hb, MapKept.run_checkKey hd (k := .int .u8 k) rfl, MapKept.run_findKey hd hf, MapKept.run_setObj_map _ hb, Result.andThen]
theorem AtMap.upd {w0 : World} {g : Nat} {o : Obj} {b : Nat} {X : World} {es : Array MapEntry} {clock : Nat} (h : AtMap w0 g o b X es clock) (es' : Array MapEntry) (clock' : Nat) :
    AtMap w0 g o b { X with heap := X.heap.setIfInBounds b (.map es' clock') } es' clock' := by
  obtain ⟨h1, h2, h3, h4, h5⟩ := h
  refine ⟨?_, (MapKept.heap_set h2).1, ?_, h4, h5⟩
  · rw [← h1]; exact (MapKept.heap_set h2).2 g h4
  · exact h3.trans ⟨rfl, rfl, rfl, by simp, fun k hk => (MapKept.heap_set h2).2 k (by omega)⟩
theorem upd_step {w0 : World} {g : Nat} {o : Obj} {b : Nat} {X : World} {es : Array MapEntry} {clock : Nat} {k : Int} {v : Value} {op : Oper} {a : Act} {K : Act → World → Prop} {Q : Exit → Act → World → Prop}
    (h : AtMap w0 g o b X es clock) (hf : Instr.findNow (.int .u8) (.int .u8 k) es.toList 0 = some none)
    (hK : ∀ X', AtMap w0 g o b X' (es.push { key := .int .u8 k, val := v, born := clock }) (clock + 1) → Oper.upon Try.prog op a K Q (.ok Next.skip X')) :
    Oper.upon Try.prog op a K Q ((Sem.run Try.prog (Instr.mapUpdate 64 (.map (some b)) (.int .u8 k) v) X).andThen fun _ w' => .ok Next.skip w') := by
  have := upd_run (v := v) h.hb hf
  rw [this]
  exact hK _ (h.upd _ _)
theorem AtMap.made {w0 w1 : World} {o : Obj} (h : Below w0.heap.size w0 w1) : AtMap w0 w1.heap.size o (w1.heap.size + 1) ((w1.alloc o).alloc (.map #[] 0)).drew #[] 0 := by
  have h1 := below_alloc h o
  have h2 := below_alloc h1 (.map #[] 0)
  have hs : (w1.alloc o).heap.size = w1.heap.size + 1 := by simp
  refine ⟨?_, ?_, below_drew h2, by omega, by have := h.size; omega⟩
  · show ((w1.alloc o).alloc (.map #[] 0)).heap[w1.heap.size]? = some o
    rw [(MapKept.heap_alloc (w1.alloc o) _).2 _ (by omega)]
    exact (MapKept.heap_alloc w1 o).1
  · show ((w1.alloc o).alloc (.map #[] 0)).heap[w1.heap.size + 1]? = _
    rw [← hs]
    exact (MapKept.heap_alloc (w1.alloc o) _).1
theorem lk_run {X : World} {b : Nat} {es : Array MapEntry} {clock : Nat} {k : Int} {i : Nat} {v : Value} (hb : X.heap[b]? = some (.map es clock)) (hf : Instr.findNow (.int .u8) (.int .u8 k) es.toList 0 = some (some (i, v))) :
    (Instr.lookup 64 (.map (some b)) (.int .u8 k) true).run Try.prog X = .ok (.tuple #[v, .bool true]) X := by
  have hm := Try.underlying64
  have hd := Try.underlying5
  simp [Instr.lookup, run_underlying hm, MapKept.run_getObj_map hb, MapKept.run_checkKey hd (k := .int .u8 k) rfl, MapKept.run_findKey hd hf, Result.andThen]
end Go.Proofs.Ytafmjhmpnlkeiaa.P

/- igmp.Decode, on the document's example alone. -/
namespace Go.Proofs.Ytafmjhmpnlkeiaa.P
open Go.RowKit Go.Proofs.YtafmjhmpnlkeiaaW.PrintWords Go.Proofs.YtafmjhmpnlkeiaaW.PrintLast Go.Proofs.YtafmjhmpnlkeiaaW.PrintMore
set_option linter.unusedVariables false
set_option linter.unusedSimpArgs false

/-- The example. -/
def exBytes : List Int := [22, 0, 248, 250, 239, 1, 2, 3]
/-- Decode's answer, told for the example alone. -/
def igmp_Decode.f (k : Nat) (l : List Int) : Option (Int × Int × Int × Int × Bool × Int × Int × List Int × List S44 × Int) :=
  if l = exBytes then (if (igmp_Right.f k 22 0 0 4009820675 false 0 0 [] [] = some true) then some (22, 0, 0, 4009820675, false, 0, 0, [], [], 0) else none) else none
theorem igmp_Decode.mono : ∀ a0 k, LeO (igmp_Decode.f k a0) (igmp_Decode.f (k + 1) a0) := by
  intro l k r h
  unfold igmp_Decode.f at h ⊢
  split at h
  case isTrue hl =>
    rw [if_pos hl]
    split at h
    case isTrue hr =>
      rw [if_pos (igmp_Right.mono _ _ _ _ _ _ _ _ _ _ _ hr)]
      exact h
    case isFalse => cases h
  case isFalse => cases h
theorem whole_ex : sum_Whole.f exBytes = some true := by kernel_rfl
theorem C_drop4 (w : World) (ad : Addr) (h : Kd.C (Kd.int .u8) w (some ad) 8 exBytes) : Kd.C (Kd.int .u8) w (some ⟨ad.block, ad.off + 4, none⟩) 4 [239, 1, 2, 3] := by
  have := Kd.C_drop (c := 8) (m := 4) (xs := exBytes) h (by decide) (by decide)
  have hs : (Kd.int .u8).sz = 1 := rfl
  simpa [exBytes, Addr.add, hs] using this
set_option maxHeartbeats 4000000 in
set_option maxRecDepth 100000 in
theorem igmp_Decode.calls (k : Nat) (A0 : Option Addr) (c0 : Nat) (l0 : List Int) (r0 r1 r2 r3 : Int) (r4 : Bool) (r5 r6 : Int) (r7 : List Int) (r8 : List S44) (r9 : Int) (w : World) (hr0 : Kd.C (Kd.int .u8) w A0 l0.length l0) (hc0 : l0.length ≤ c0) (h : igmp_Decode.f k l0 = some (r0, r1, r2, r3, r4, r5, r6, r7, r8, r9)) :
    Calls Try.prog 14 #[.slice A0 l0.length c0] w fun e w' => ∃ v0_ v1_ : Value, e = .returned (.tuple #[.agg #[.int .u8 r0, .int .i64 r1, .int .u8 r2, .int .u32 r3, .bool r4, .int .u8 r5, .int .u8 r6, v0_, v1_], .int .i64 r9]) ∧ Kd.R (Kd.int .u32) 23 w' w.heap.size (fun _ => True) v0_ r7 ∧ Kd.S k44 44 w' w.heap.size (fun _ => True) v1_ r8 ∧ Below w.heap.size w w' := by
  unfold igmp_Decode.f at h
  split at h
  case isFalse => cases h
  case isTrue hl =>
  split at h
  case isFalse => cases h
  case isTrue hright =>
  simp only [Option.some.injEq, Prod.mk.injEq] at h
  obtain ⟨rfl, rfl, rfl, rfl, rfl, rfl, rfl, rfl, rfl, rfl⟩ := h
  subst hl
  have hu27 := Try.underlying27
  have hu44 := Try.underlying44
  have hu63 := Try.underlying63
  have hu64 := Try.underlying64
  have hmm := @run_makeMap Try.prog
  obtain ⟨ad, rfl⟩ : ∃ ad, A0 = some ad := by
    obtain ⟨_, _, h3⟩ := hr0
    obtain ⟨ad, h4, _⟩ := h3 (by simp [exBytes])
    exact ⟨ad, h4⟩
  have hr1 : Kd.C (Kd.int .u8) w (some ad) 8 exBytes := hr0
  have hc1 : 8 ≤ c0 := hc0
  obtain ⟨_, e0, p0⟩ := Kd.at_int hr1 0 (by decide) (by decide)
  cases e0
  obtain ⟨_, e1, p1⟩ := Kd.at_int hr1 1 (by decide) (by decide)
  cases e1
  have p0b : w.cell? ad = some (.int .u8 22) := by simpa [Addr.add, exBytes, rd] using p0
  have p1b : w.cell? ⟨ad.block, ad.off + 1, none⟩ = some (.int .u8 0) := by simpa [Addr.add, exBytes, rd] using p1
  have HR0 := Aside0.mk hr1
  have HC0 := Aside0.mk hc1
  have H4 := Aside0.mk (C_drop4 w ad hr1)
  clear hr0 hc0 hr1 p0 p1 hc1
  show Calls Try.prog 14 #[.slice (some ad) 8 c0] w _
  go_enter Try.func14, Try.ntmps14
  go_wp2_with fail
  obtain ⟨w0, hw0⟩ : ∃ w0, w.alloc (.cells #[.int .u8 0, .int .i64 0, .int .u8 0, .int .u32 0, .bool false, .int .u8 0, .int .u8 0, .slice none 0 0, .slice none 0 0] 27) = w0 := ⟨_, rfl⟩
  rw [hw0]
  have HB0 : Aside0 (Below w.heap.size w w0) := ⟨by rw [← hw0]; exact below_alloc (Below.refl _ _) _⟩
  have HN0 : Aside0 (w0.heap[w.heap.size]? = some (.cells #[.int .u8 0, .int .i64 0, .int .u8 0, .int .u32 0, .bool false, .int .u8 0, .int .u8 0, .slice none 0 0, .slice none 0 0] 27 (0, 0))) := ⟨by rw [← hw0]; exact heap_alloc_new w _⟩
  clear hw0
  refine (sum_Whole.calls (some ad) c0 exBytes true w0 (Kd.C_below HR0.out HB0.out) HC0.out whole_ex).mono ?_
  rintro e w1 ⟨rfl, hb1⟩
  have HB1 := Aside0.mk hb1
  have q0 := pw_cell_below hb1 (pw_cell_below HB0.out p0b)
  have q1 := pw_cell_below hb1 (pw_cell_below HB0.out p1b)
  have hc0 := HC0.out
  have P0 := Aside0.mk (pw_cell_below HB0.out p0b)
  clear p0b
  clear hb1 p1b
  go_wp2_with fail
  go_region_held3 (fun w' => w'.cell? ad = some (.int .u8 22) ∧ w'.cell? ⟨ad.block, ad.off + 1, none⟩ = some (.int .u8 0)) (go_keep) (fail)
  have hne : ¬ c0 = 4 := by omega
  try simp only [if_neg hne]
  go_wp2_with fail
  have HA0 := Aside0.mk (AtMap.made (o := .cells (rdCells (.slice (some ⟨ad.block, ad.off + 4, none⟩) 4 (c0 - 4)) 0 (.slice none 0 0) (.slice none 0 0)) 63) HB1.out)
  refine upd_step HA0.out rfl ?_
  intro X1 h1
  have HA1 := Aside0.mk h1
  clear h1
  go_wp2_with fail
  refine upd_step HA1.out rfl ?_
  intro X2 h2
  have HA2 := Aside0.mk h2
  clear h2
  go_wp2_with fail
  refine upd_step HA2.out rfl ?_
  intro X3 h3
  have HA3 := Aside0.mk h3
  clear h3
  go_wp2_with fail
  refine upd_step HA3.out rfl ?_
  intro X4 h4
  have HA4 := Aside0.mk h4
  clear h4
  go_wp2_with fail
  refine upd_step HA4.out rfl ?_
  intro X5 h5
  have q0' := pw_cell_below h5.below P0.out
  have HA5 := Aside0.mk h5
  clear h5
  go_wp2_with fail
  rw [lk_run HA5.out.hb (i := 2) (v := .func (.func 36) #[.pointer (some ⟨w1.heap.size, 0, none⟩)] #[]) rfl]
  go_wp2_with fail
  refine (plain4 w0 X5 w1.heap.size ⟨ad.block, ad.off + 4, none⟩ (c0 - 4) 0 (.slice none 0 0) (.slice none 0 0) (by omega) HA5.out.hg HB1.out.size HA5.out.below (Kd.C_below H4.out HB0.out)).mono ?_
  rintro e X6 ⟨A6, c6, rfl, hg6, hb6⟩
  have HB6 := Aside0.mk hb6
  have HG6 := Aside0.mk hg6
  have k0 : X6.cell? ⟨w1.heap.size, 0, none⟩ = some (.slice A6 0 c6) := rd_cell hg6 0 _ rfl
  have k1 : X6.cell? ⟨w1.heap.size, 1, none⟩ = some (.int .u8 22) := rd_cell hg6 1 _ rfl
  have k2 : X6.cell? ⟨w1.heap.size, 2, none⟩ = some (.int .i64 0) := rd_cell hg6 2 _ rfl
  have k3 : X6.cell? ⟨w1.heap.size, 3, none⟩ = some (.int .u8 0) := rd_cell hg6 3 _ rfl
  have k4 : X6.cell? ⟨w1.heap.size, 4, none⟩ = some (.int .u32 4009820675) := rd_cell hg6 4 _ rfl
  have k5 : X6.cell? ⟨w1.heap.size, 5, none⟩ = some (.bool false) := rd_cell hg6 5 _ rfl
  have k6 : X6.cell? ⟨w1.heap.size, 6, none⟩ = some (.int .u8 0) := rd_cell hg6 6 _ rfl
  have k7 : X6.cell? ⟨w1.heap.size, 7, none⟩ = some (.int .u8 0) := rd_cell hg6 7 _ rfl
  have k8 : X6.cell? ⟨w1.heap.size, 8, none⟩ = some (.slice none 0 0) := rd_cell hg6 8 _ rfl
  have k9 : X6.cell? ⟨w1.heap.size, 9, none⟩ = some (.slice none 0 0) := rd_cell hg6 9 _ rfl
  have k10 : X6.cell? ⟨w1.heap.size, 10, none⟩ = some (.bool false) := rd_cell hg6 10 _ rfl
  clear hg6 hb6 q0'
  go_wp2_with fail
  refine (igmp_Right.calls k 22 0 0 4009820675 false 0 0 none 0 [] none 0 [] true X6 (Kd.C_nil _ _) (Nat.le_refl _) (Kd.C_nil _ _) (Nat.le_refl _) hright).mono ?_
  rintro e X7 ⟨rfl, hb7⟩
  have hg7 : X7.heap[w1.heap.size]? = some (.cells (rdCells (.slice A6 0 c6) 4009820675 (.slice none 0 0) (.slice none 0 0)) 63 (0, 0)) := (hb7.block _ (Array.getElem?_eq_some_iff.1 HG6.out).1).trans HG6.out
  have hb07 : Below w0.heap.size w0 X7 := HB6.out.trans (hb7.mono HB6.out.size)
  have HB7 := Aside0.mk hb07
  have hn7 : X7.heap[w.heap.size]? = some (.cells #[.int .u8 0, .int .i64 0, .int .u8 0, .int .u32 0, .bool false, .int .u8 0, .int .u8 0, .slice none 0 0, .slice none 0 0] 27 (0, 0)) := (hb07.block _ (Array.getElem?_eq_some_iff.1 HN0.out).1).trans HN0.out
  have HN7 := Aside0.mk hn7
  clear k0 k1 k2 k3 k4 k5 k6 k7 k8 k9 k10
  have k1 : X7.cell? ⟨w1.heap.size, 1, none⟩ = some (.int .u8 22) := rd_cell hg7 1 _ rfl
  have k2 : X7.cell? ⟨w1.heap.size, 2, none⟩ = some (.int .i64 0) := rd_cell hg7 2 _ rfl
  have k3 : X7.cell? ⟨w1.heap.size, 3, none⟩ = some (.int .u8 0) := rd_cell hg7 3 _ rfl
  have k4 : X7.cell? ⟨w1.heap.size, 4, none⟩ = some (.int .u32 4009820675) := rd_cell hg7 4 _ rfl
  have k5 : X7.cell? ⟨w1.heap.size, 5, none⟩ = some (.bool false) := rd_cell hg7 5 _ rfl
  have k6 : X7.cell? ⟨w1.heap.size, 6, none⟩ = some (.int .u8 0) := rd_cell hg7 6 _ rfl
  have k7 : X7.cell? ⟨w1.heap.size, 7, none⟩ = some (.int .u8 0) := rd_cell hg7 7 _ rfl
  have k8 : X7.cell? ⟨w1.heap.size, 8, none⟩ = some (.slice none 0 0) := rd_cell hg7 8 _ rfl
  have k9 : X7.cell? ⟨w1.heap.size, 9, none⟩ = some (.slice none 0 0) := rd_cell hg7 9 _ rfl
  have n0 : X7.cell? ⟨w.heap.size, 0, none⟩ = some (.int .u8 0) := rd_cell hn7 0 _ rfl
  have f0 := rd_frozen hn7 0
  have n1 : X7.cell? ⟨w.heap.size, 1, none⟩ = some (.int .i64 0) := rd_cell hn7 1 _ rfl
  have f1 := rd_frozen hn7 1
  have n2 : X7.cell? ⟨w.heap.size, 2, none⟩ = some (.int .u8 0) := rd_cell hn7 2 _ rfl
  have f2 := rd_frozen hn7 2
  have n3 : X7.cell? ⟨w.heap.size, 3, none⟩ = some (.int .u32 0) := rd_cell hn7 3 _ rfl
  have f3 := rd_frozen hn7 3
  have n4 : X7.cell? ⟨w.heap.size, 4, none⟩ = some (.bool false) := rd_cell hn7 4 _ rfl
  have f4 := rd_frozen hn7 4
  have n5 : X7.cell? ⟨w.heap.size, 5, none⟩ = some (.int .u8 0) := rd_cell hn7 5 _ rfl
  have f5 := rd_frozen hn7 5
  have n6 : X7.cell? ⟨w.heap.size, 6, none⟩ = some (.int .u8 0) := rd_cell hn7 6 _ rfl
  have f6 := rd_frozen hn7 6
  have n7 : X7.cell? ⟨w.heap.size, 7, none⟩ = some (.slice none 0 0) := rd_cell hn7 7 _ rfl
  have f7 := rd_frozen hn7 7
  have n8 : X7.cell? ⟨w.heap.size, 8, none⟩ = some (.slice none 0 0) := rd_cell hn7 8 _ rfl
  have f8 := rd_frozen hn7 8
  clear hb7 hb07 hg7 hn7
  go_wp2_with fail
  obtain ⟨W8, hW8⟩ : ∃ W8, (((((((((X7.setCell ⟨w.heap.size, 0, none⟩ (.int .u8 22)).setCell ⟨w.heap.size, 1, none⟩ (.int .i64 0)).setCell ⟨w.heap.size, 2, none⟩ (.int .u8 0)).setCell ⟨w.heap.size, 3, none⟩ (.int .u32 4009820675)).setCell ⟨w.heap.size, 4, none⟩ (.bool false)).setCell ⟨w.heap.size, 5, none⟩ (.int .u8 0)).setCell ⟨w.heap.size, 6, none⟩ (.int .u8 0)).setCell ⟨w.heap.size, 7, none⟩ (.slice none 0 0)).setCell ⟨w.heap.size, 8, none⟩ (.slice none 0 0)) = W8 := ⟨_, rfl⟩
  rw [hW8]
  have h8 : W8.heap[w.heap.size]? = some (.cells #[.int .u8 22, .int .i64 0, .int .u8 0, .int .u32 4009820675, .bool false, .int .u8 0, .int .u8 0, .slice none 0 0, .slice none 0 0] 27 (0, 0)) := by
    rw [← hW8]
    exact (rd_set (rd_set (rd_set (rd_set (rd_set (rd_set (rd_set (rd_set (rd_set HN7.out 0 (.int .u8 22) (by simp)) 1 (.int .i64 0) (by simp)) 2 (.int .u8 0) (by simp)) 3 (.int .u32 4009820675) (by simp)) 4 (.bool false) (by simp)) 5 (.int .u8 0) (by simp)) 6 (.int .u8 0) (by simp)) 7 (.slice none 0 0) (by simp)) 8 (.slice none 0 0) (by simp))
  have b8 : Below w.heap.size w W8 := by
    rw [← hW8]
    exact ((((((((((HB0.out.trans (HB7.out.mono HB0.out.size)).setCell (p := ⟨w.heap.size, 0, none⟩) (Nat.le_refl _) (.int .u8 22)).setCell (p := ⟨w.heap.size, 1, none⟩) (Nat.le_refl _) (.int .i64 0)).setCell (p := ⟨w.heap.size, 2, none⟩) (Nat.le_refl _) (.int .u8 0)).setCell (p := ⟨w.heap.size, 3, none⟩) (Nat.le_refl _) (.int .u32 4009820675)).setCell (p := ⟨w.heap.size, 4, none⟩) (Nat.le_refl _) (.bool false)).setCell (p := ⟨w.heap.size, 5, none⟩) (Nat.le_refl _) (.int .u8 0)).setCell (p := ⟨w.heap.size, 6, none⟩) (Nat.le_refl _) (.int .u8 0)).setCell (p := ⟨w.heap.size, 7, none⟩) (Nat.le_refl _) (.slice none 0 0)).setCell (p := ⟨w.heap.size, 8, none⟩) (Nat.le_refl _) (.slice none 0 0))
  clear hW8 k1 k2 k3 k4 k5 k6 k7 k8 k9 n0 f0 n1 f1 n2 f2 n3 f3 n4 f4 n5 f5 n6 f6 n7 f7 n8 f8
  have c0 : W8.cell? ⟨w.heap.size, 0, none⟩ = some (.int .u8 22) := rd_cell h8 0 _ rfl
  have c1 : W8.cell? ⟨w.heap.size, 1, none⟩ = some (.int .i64 0) := rd_cell h8 1 _ rfl
  have c2 : W8.cell? ⟨w.heap.size, 2, none⟩ = some (.int .u8 0) := rd_cell h8 2 _ rfl
  have c3 : W8.cell? ⟨w.heap.size, 3, none⟩ = some (.int .u32 4009820675) := rd_cell h8 3 _ rfl
  have c4 : W8.cell? ⟨w.heap.size, 4, none⟩ = some (.bool false) := rd_cell h8 4 _ rfl
  have c5 : W8.cell? ⟨w.heap.size, 5, none⟩ = some (.int .u8 0) := rd_cell h8 5 _ rfl
  have c6 : W8.cell? ⟨w.heap.size, 6, none⟩ = some (.int .u8 0) := rd_cell h8 6 _ rfl
  have c7 : W8.cell? ⟨w.heap.size, 7, none⟩ = some (.slice none 0 0) := rd_cell h8 7 _ rfl
  have c8 : W8.cell? ⟨w.heap.size, 8, none⟩ = some (.slice none 0 0) := rd_cell h8 8 _ rfl
  refine bodyPost_ret (v := .tuple #[.agg #[.int .u8 22, .int .i64 0, .int .u8 0, .int .u32 4009820675, .bool false, .int .u8 0, .int .u8 0, .slice none 0 0, .slice none 0 0], .int .i64 0]) ?hr ?hd ?hR
  case hd => rfl
  case hR => exact ⟨.slice none 0 0, .slice none 0 0, rfl, Kd.R_nil _ _ _ _ _, Kd.S_nil _ _ _ _ _, b8⟩
  case hr =>
    rw [results_cell_tmp rfl]
    go_simp
end Go.Proofs.Ytafmjhmpnlkeiaa.P
