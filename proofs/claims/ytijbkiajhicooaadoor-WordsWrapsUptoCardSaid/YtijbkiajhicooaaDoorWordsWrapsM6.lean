-- Written by merge.py, a program of this session's: PureColA PureFloor PureColC PureWordsAll PureWordsColumns PureWrapA PureWrapB PureWordsWraps
import Derived.Test.YtijbkiajhicooaaDoorWordsWrapsM1
import Derived.Test.YtijbkiajhicooaaDoorWordsWrapsM4
import Derived.Test.YtijbkiajhicooaaDoorWordsWrapsM5
import Derived.Test.YtijbkiajhicooaaDoorWordsWrapsM3
import Derived.Test.YtijbkiajhicooaaDoorWordsWrapsM2
namespace Go.Proofs.YtijbkiajhicooaaDoor.PW
open Go.RowKit Go.Proofs.YtijbkiajhicooaaDoorW.PrintWords Go.Proofs.YtijbkiajhicooaaDoorW.PrintLast Go.Proofs.YtijbkiajhicooaaDoorW.PrintMore
attribute [local go_sem] max2_int min2_int max_two min_two max_three min_three max_four min_four   -- for this text's walks alone
set_option linter.unusedVariables false
set_option linter.unusedSimpArgs false

/-- Does a line begin at the place? -/
def startsB (l : List Int) (p : Nat) : Bool :=
 if p = 0 then true else if rd l ((p : Int) - 1) = 10 then true else if rd l ((p : Int) - 1) = 13 then (if p = l.length then true else rd l (p : Int) != 10) else false
theorem rd_at {l : List Int} (hb : Bytes l) (p : Nat) (hp : p < l.length) : rd l (p : Int) = atI l (p : Int) := by
 obtain ⟨e, h0, h1⟩ := atI_in hb p hp
 rw [e]
 unfold rd
 simp
/-- A step of a rune below 128 is its byte. -/
theorem rune_byte {l : List Int} (hb : Bytes l) (hl : l.length ≤ 4398046511104) (p : Nat) (hp : p < l.length) (c : Int) (h0 : 0 ≤ c) (h1 : c < 128) :
  ((ofL l p).2.2 = true ∧ (ofL l p).1 = c) ↔ rd l (p : Int) = c := by
 rw [rd_at hb p hp]
 have hlong := longAt_nat l p (by omega)
 unfold ofL
 rw [hlong]
 obtain ⟨x, hx⟩ : ∃ x, atI l (p : Int) = x := ⟨_, rfl⟩
 obtain ⟨y, hy⟩ : ∃ x, atI l (p + 1 : Nat) = x := ⟨_, rfl⟩
 obtain ⟨z, hz⟩ : ∃ x, atI l (p + 2 : Nat) = x := ⟨_, rfl⟩
 obtain ⟨v, hv⟩ : ∃ x, atI l (p + 3 : Nat) = x := ⟨_, rfl⟩
 rw [hx, hy, hz, hv]
 clear hlong hx hy hz hv
 rcases longOf_cases x y z v with ⟨h, e⟩ | ⟨h, e⟩ | ⟨h, e⟩ | ⟨h, e⟩ | ⟨g1, g2, g3, g4, e⟩
 ·have hr : runeV x y z v = x := by simp [runeV, e]
  rw [hr, e, if_neg (by decide)]
  simp
 ·have hr : runeV x y z v = x % 32 * 64 + y % 64 := by simp [runeV, e]
  unfold isTwo at h
  rw [hr, e, if_neg (by decide)]
  exact ⟨fun g => by have := g.2; simp only at this; omega, fun g => by omega⟩
 ·have hr : runeV x y z v = x % 16 * 4096 + y % 64 * 64 + z % 64 := by simp [runeV, e]
  unfold isThree at h
  rw [hr, e, if_neg (by decide)]
  exact ⟨fun g => by have := g.2; simp only at this; omega, fun g => by omega⟩
 ·have hr : runeV x y z v = x % 8 * 262144 + y % 64 * 4096 + z % 64 * 64 + v % 64 := by simp [runeV, e]
  unfold isFour at h
  rw [hr, e, if_neg (by decide)]
  exact ⟨fun g => by have := g.2; simp only at this; omega, fun g => by omega⟩
 ·rw [e, if_pos rfl]
  unfold isOne at g1
  exact ⟨fun g => by simp at g, fun g => by omega⟩
theorem kind_end {l : List Int} (hb : Bytes l) (hl : l.length ≤ 4398046511104) (p : Nat) (hp : p < l.length) : kindOf (ofL l p).1 (ofL l p).2.2 = 2 ↔ (rd l (p : Int) = 10 ∨ rd l (p : Int) = 13) := by
 have h10 := rune_byte hb hl p hp 10 (by decide) (by decide)
 have h13 := rune_byte hb hl p hp 13 (by decide) (by decide)
 rw [← h10, ← h13]
 obtain ⟨⟨r, x, b⟩, hx⟩ : ∃ x, ofL l p = x := ⟨_, rfl⟩
 rw [hx]
 clear h10 h13 hx
 unfold kindOf
 cases b with
 | false => simp
 | true =>
  simp only [if_true, true_and]
  by_cases g1 : r = 32 ∨ r = 9
  ·rw [if_pos g1]
   constructor
   ·intro h; omega
   ·intro h; omega
  ·rw [if_neg g1]
   by_cases g2 : r = 10 ∨ r = 13
   ·rw [if_pos g2]
    exact ⟨fun _ => g2, fun _ => rfl⟩
   ·rw [if_neg g2]
    split
    ·exact ⟨fun h => by omega, fun h => absurd h g2⟩
    ·exact ⟨fun h => by omega, fun h => absurd h g2⟩
theorem low_long {l : List Int} (hb : Bytes l) (hl : l.length ≤ 4398046511104) (p : Nat) (hp : p < l.length) (h : rd l (p : Int) < 128) : longAt l (p : Int) = 1 ∧ widL l p = 1 := by
 rw [rd_at hb p hp] at h
 have h0 := (atI_in hb p hp).2.1
 rw [← (atI_in hb p hp).1] at h0
 have : longAt l (p : Int) = 1 := by
  rw [longAt_nat l p (by omega)]
  exact longOf_one ⟨h0, by omega⟩
 refine ⟨this, ?_⟩
 unfold widL
 rw [this]
 rfl
theorem vis_low {l : List Int} (hb : Bytes l) (hl : l.length ≤ 4398046511104) (p : Nat) (hp : p ≤ l.length) (h : p = l.length ∨ rd l (p : Int) < 128) : Vis l p := by
 intro j j1 j3 jp
 refine Int.not_lt.1 fun hlt => ?_
 obtain ⟨_, _, hle, hc, _⟩ := longAt_facts hb (p - j) hl (by omega)
 have h1 := hle (by omega)
 have h2 := hc j j1 hlt
 rw [show p - j + j = p by omega] at h2
 rcases h with h | h
 ·omega
 ·have hlt2 : p < l.length := by omega
  rw [rd_at hb p hlt2] at h
  omega
/-- Index i of the steps stands at edge p. -/
def AtE (l : List Int) (p i : Nat) : Prop := p ≤ l.length ∧ i ≤ p ∧ ∃ pre, stepsL l = pre ++ stepsFrom (strOfNums l) p ∧ pre.length = i
theorem atE_zero (l : List Int) : AtE l 0 0 := ⟨Nat.zero_le _, Nat.le_refl _, [], rfl, rfl⟩
theorem atE_next {l : List Int} (hb : Bytes l) (hl : l.length ≤ 4398046511104) {p i : Nat} (h : AtE l p i) (hp : p < l.length) : AtE l (p + widL l p) (i + 1) := by
 obtain ⟨h1, h2, pre, h3, h4⟩ := h
 obtain ⟨w1, w4, wl⟩ := widL_pos hb p hl hp
 refine ⟨wl, by omega, pre ++ [((p : Int), ofL l p)], ?_, by simp [h4]⟩
 rw [h3, sf_cons hb hl p hp]
 simp
/-- The reference's places and kinds. -/
abbrev psL (l : List Int) : List Int := (stepsL l).map (·.1) ++ [(l.length : Int)]
abbrev ksL (l : List Int) : List Int := (stepsL l).map kOf
theorem atE_place {l : List Int} (hb : Bytes l) (hl : l.length ≤ 4398046511104) {p i : Nat} (h : AtE l p i) : rd (psL l) (i : Int) = (p : Int) := by
 obtain ⟨h1, h2, pre, h3, h4⟩ := h
 unfold psL
 rw [h3, ← h4]
 exact rd_places hb hl pre p h1
theorem atE_len {l : List Int} (hb : Bytes l) (hl : l.length ≤ 4398046511104) {p i : Nat} (h : AtE l p i) (hp : p < l.length) : (i : Int) < ((ksL l).length : Int) ∧ (i : Int) < ((psL l).length : Int) ∧ (i : Int) + 1 < ((psL l).length : Int) := by
 obtain ⟨h1, h2, pre, h3, h4⟩ := h
 have : (stepsL l).length = pre.length + 1 + (stepsFrom (strOfNums l) (p + widL l p)).length := by
  rw [h3, sf_cons hb hl p hp]
  simp
  omega
 simp only [List.length_map, List.length_append, List.length_singleton]
 omega
theorem atE_end {l : List Int} {i : Nat} (h : AtE l l.length i) : (ksL l).length = i := by
 obtain ⟨h1, h2, pre, h3, h4⟩ := h
 rw [sf_nil _ (Nat.le_refl _), List.append_nil] at h3
 simp [h3, h4]
theorem atE_kind {l : List Int} (hb : Bytes l) (hl : l.length ≤ 4398046511104) {p i : Nat} (h : AtE l p i) (hp : p < l.length) : rd (ksL l) (i : Int) = kindOf (ofL l p).1 (ofL l p).2.2 := by
 obtain ⟨h1, h2, pre, h3, h4⟩ := h
 unfold ksL
 rw [h3, ← h4, sf_cons hb hl p hp]
 exact rd_kinds_at pre ((p : Int), ofL l p) _
section
variable {l : List Int} (hb : Bytes l) (hl : l.length ≤ 4398046511103) (place w : Int)
include hb hl in
include hb hl in
include hb hl in
include hb hl in
include hl in
end

end Go.Proofs.YtijbkiajhicooaaDoor.PW

namespace Go.Proofs.YtijbkiajhicooaaDoor.PW
open Go.RowKit Go.Proofs.YtijbkiajhicooaaDoorW.PrintWords Go.Proofs.YtijbkiajhicooaaDoorW.PrintLast Go.Proofs.YtijbkiajhicooaaDoorW.PrintMore
attribute [local go_sem] max2_int min2_int max_two min_two max_three min_three max_four min_four   -- for this text's walks alone
set_option linter.unusedVariables false
set_option linter.unusedSimpArgs false

theorem rd_line (ls : List S127) (i : Nat) (h : i < ls.length) : rd_T127 ls (i : Int) = ls[i] := by
 unfold rd_T127
 rw [List.getD_eq_getElem?_getD, Int.toNat_natCast, List.getElem?_eq_getElem h]
 rfl
end Go.Proofs.YtijbkiajhicooaaDoor.PW

namespace Go.Proofs.YtijbkiajhicooaaDoor.PW
open Go.RowKit Go.Proofs.YtijbkiajhicooaaDoorW.PrintWords Go.Proofs.YtijbkiajhicooaaDoorW.PrintLast Go.Proofs.YtijbkiajhicooaaDoorW.PrintMore
attribute [local go_sem] max2_int min2_int max_two min_two max_three min_three max_four min_four   -- for this text's walks alone
set_option linter.unusedVariables false
set_option linter.unusedSimpArgs false

/-- A line's content ends at C with a line end, and the next line begins at n. -/
def LEnd (l : List Int) (C n : Nat) : Prop :=
 C < l.length ∧ n ≤ l.length ∧ (rd l (C : Int) = 10 ∨ rd l (C : Int) = 13) ∧ startsB l n = true ∧ (n = C + 1 ∨ (n = C + 2 ∧ C + 1 < l.length ∧ rd l (C : Int) = 13 ∧ rd l ((C + 1 : Nat) : Int) = 10))
theorem lend_of {l : List Int} {r : S127} (h : EndsAt l r) (h0 : 0 ≤ r.f1) : ∃ n : Nat, r.f3 = (n : Int) ∧ LEnd l r.f1.toNat n := by
 obtain ⟨C, hC⟩ : ∃ C : Nat, r.f1 = (C : Int) := ⟨r.f1.toNat, by omega⟩
 unfold EndsAt at h
 rw [hC] at h ⊢
 rw [Int.toNat_natCast]
 rcases h with ⟨h1, h2, h3, h4⟩ | ⟨h1, h2, h3, h4, h5⟩ | ⟨h1, h2, h3, h4, h5⟩
 ·refine ⟨C + 1, by omega, by omega, by omega, .inl h2, ?_, .inl rfl⟩
  unfold startsB
  rw [if_neg (by omega), show ((C + 1 : Nat) : Int) - 1 = (C : Int) by omega, if_pos h2]
 ·refine ⟨C + 2, by omega, by omega, by omega, .inr h2, ?_, .inr ⟨rfl, by omega, h2, h3⟩⟩
  unfold startsB
  rw [if_neg (by omega), show ((C + 2 : Nat) : Int) - 1 = (C : Int) + 1 by omega, if_pos h3]
 ·refine ⟨C + 1, by omega, by omega, by omega, .inr h2, ?_, .inl rfl⟩
  unfold startsB
  rw [if_neg (by omega), show ((C + 1 : Nat) : Int) - 1 = (C : Int) by omega, if_neg (by rw [h2]; decide), if_pos h2]
  by_cases e : C + 1 = l.length
  ·rw [if_pos e]
  ·rw [if_neg e]
   have : rd l ((C + 1 : Nat) : Int) ≠ 10 := fun g => h3 ⟨by omega, g⟩
   simpa using this
theorem end_low {l : List Int} {C : Nat} (h : rd l (C : Int) = 10 ∨ rd l (C : Int) = 13) : rd l (C : Int) < 128 := by
 rcases h with h | h <;> rw [h] <;> decide
section
variable {l : List Int} (hb : Bytes l) (hl : l.length ≤ 4398046511103) (pl : Nat) (hpl : pl ≤ l.length) (w : Int) (hw0 : 1 ≤ w)
include hb hl hw0 in
include hb hl hw0 hpl in
include hb hl hw0 hpl in
include hb hl hw0 hpl in
include hb hl hw0 hpl in
end

end Go.Proofs.YtijbkiajhicooaaDoor.PW

namespace Go.Proofs.YtijbkiajhicooaaDoor.PW
open Go.RowKit Go.Proofs.YtijbkiajhicooaaDoorW.PrintWords Go.Proofs.YtijbkiajhicooaaDoorW.PrintLast Go.Proofs.YtijbkiajhicooaaDoorW.PrintMore
attribute [local go_sem] max2_int min2_int max_two min_two max_three min_three max_four min_four   -- for this text's walks alone
set_option linter.unusedVariables false
set_option linter.unusedSimpArgs false

theorem own_some (l : List Int) (hl : l.length ≤ 4398046511103) : galleylaw22_own.f l = some l := by
 unfold galleylaw22_own.f
 rw [Option.bind_some, if_pos (by simp; omega), List.nil_append]
end Go.Proofs.YtijbkiajhicooaaDoor.PW
namespace Go.Proofs.YtijbkiajhicooaaDoor.Pure
open Go.Proofs.YtijbkiajhicooaaDoor.PW Go.RowKit
end Go.Proofs.YtijbkiajhicooaaDoor.Pure
namespace Go.Proofs.YtijbkiajhicooaaDoor.PW

end Go.Proofs.YtijbkiajhicooaaDoor.PW

namespace Go.Proofs.YtijbkiajhicooaaDoor.PW
open Go.RowKit Go.Proofs.YtijbkiajhicooaaDoorW.PrintWords Go.Proofs.YtijbkiajhicooaaDoorW.PrintLast Go.Proofs.YtijbkiajhicooaaDoorW.PrintMore
attribute [local go_sem] max2_int min2_int max_two min_two max_three min_three max_four min_four   -- for this text's walks alone
set_option linter.unusedVariables false
set_option linter.unusedSimpArgs false

theorem lineAt_length (l : List Int) : ∀ (k : Nat) (s i : Int) (out : List S127), (lineAt l k s i out).length ≤ out.length + k := by
 intro k
 induction k with
 | zero => intro s i out; simp [lineAt]
 | succ k ih =>
  intro s i out
  simp only [lineAt]
  repeat' split
  ·refine Nat.le_trans (ih _ _ _) (by simp; omega)
  ·refine Nat.le_trans (ih _ _ _) (by simp; omega)
  ·refine Nat.le_trans (ih _ _ _) (by simp; omega)
  ·refine Nat.le_trans (ih _ _ _) (by omega)
  ·simp
theorem allLines_length (l : List Int) : (allLines l).length ≤ l.length + 1 := by
 have := lineAt_length l (l.length + 1) 0 0 []
 simpa [allLines] using this
theorem line_ev {l : List Int} (hl : l.length ≤ 4398046511103) (j : Nat) (hj : j < (allLines l).length) :
  lines_Line.f l (j : Int) = some ((rd_T127 (allLines l) (j : Int)).f0, (rd_T127 (allLines l) (j : Int)).f1, (rd_T127 (allLines l) (j : Int)).f3, 0) := by
 have hall : lines_all.f l = some (allLines l) := by unfold lines_all.f; rw [if_pos hl]
 unfold lines_Line.f
 rw [hall, Option.bind_some, if_neg (by omega), if_neg (by omega), if_pos (by omega), if_pos (by omega)]
end Go.Proofs.YtijbkiajhicooaaDoor.PW
namespace Go.Proofs.YtijbkiajhicooaaDoor.Pure
open Go.Proofs.YtijbkiajhicooaaDoor.PW Go.RowKit
end Go.Proofs.YtijbkiajhicooaaDoor.Pure
namespace Go.Proofs.YtijbkiajhicooaaDoor.PW

end Go.Proofs.YtijbkiajhicooaaDoor.PW

namespace Go.Proofs.YtijbkiajhicooaaDoor.PW
open Go.RowKit Go.Proofs.YtijbkiajhicooaaDoorW.PrintWords Go.Proofs.YtijbkiajhicooaaDoorW.PrintLast Go.Proofs.YtijbkiajhicooaaDoorW.PrintMore
attribute [local go_sem] max2_int min2_int max_two min_two max_three min_three max_four min_four   -- for this text's walks alone
set_option linter.unusedVariables false
set_option linter.unusedSimpArgs false

/-- A line's own edges and blanks (es, bl) are those of the whole text (ps, ks) from index b on; the line begins at place S. -/
structure Corr (ps ks es : List Int) (bl : List Bool) (b m : Nat) (S : Int) : Prop where
 hm : es.length = m + 1
 hk : ∀ t : Int, 1 ≤ t → t ≤ (m : Int) → (rd ks ((b : Int) + t - 1) = 1 ↔ rdOf false bl t = true)
 hp : ∀ t : Int, 1 ≤ t → t ≤ (m : Int) → rd ps ((b : Int) + t) = wrap64 (S + rd es t)
 lp : b + m < ps.length
 lk : b + m ≤ ks.length
 sm : b + m ≤ 4398046511104
theorem wrap_l3 {ps ks es : List Int} {bl : List Bool} {b m : Nat} {S : Int} (H : Corr ps ks es bl b m S) (w n : Int) (hw1 : 1 ≤ w) (s : Nat) (hs : (s : Int) + w ≤ (m : Int)) (out : List Int) (ho : out.length < 17592186044416) {v : List Int × Int} :
  ∀ (j : Nat), (j : Int) ≤ w → (∀ c : Int, c = (if scanB bl (s : Int) j ((s : Int) + (j : Int)) = (s : Int) then (s : Int) + w else scanB bl (s : Int) j ((s : Int) + (j : Int))) →
   Ev (fun k => galleyref22_Wrap.l2 k w n (out ++ [wrap64 (S + rd es c)]) ((b : Int) + c) ((b : Int) + (m : Int)) ps ks) v) →
  Ev (fun k => galleyref22_Wrap.l3 k w n out ((b : Int) + (s : Int)) ((b : Int) + (m : Int)) ((b : Int) + (s : Int) + (j : Int)) ps ks) v := by
 have hsm := H.sm
 have hlp := H.lp
 have hlk := H.lk
 have c1 : 0 ≤ (b : Int) + (s : Int) + w := by omega
 have c2 : (b : Int) + (s : Int) + w < (ps.length : Int) := by omega
 have ew : wrap64 ((b : Int) + (s : Int) + w) = (b : Int) + (s : Int) + w := wrap64_small (by omega) (by omega)
 intro j
 induction j with
 | zero =>
  intro hj h
  have h := h ((s : Int) + w) (by
   rw [if_pos]
   show (s : Int) + ((0 : Nat) : Int) = (s : Int)
   omega)
  have a1 : ¬ (b : Int) + (s : Int) + ((0 : Nat) : Int) > (b : Int) + (s : Int) := by omega
  have a2 : (b : Int) + (s : Int) + ((0 : Nat) : Int) = (b : Int) + (s : Int) := by omega
  have a3 : (b : Int) + ((s : Int) + w) = (b : Int) + (s : Int) + w := by omega
  have hp := H.hp ((s : Int) + w) (by omega) hs
  rw [a3] at hp h
  refine Ev.succ h (fun k => ?_)
  rw [galleyref22_Wrap.l3, if_neg a1, if_pos a2, ew, if_pos c1, if_pos c2, if_pos ho, hp]
 | succ j ih =>
  intro hj h
  have a1 : (b : Int) + (s : Int) + ((j + 1 : Nat) : Int) > (b : Int) + (s : Int) := by omega
  have a2 : (b : Int) + (s : Int) + ((j + 1 : Nat) : Int) - 1 = (b : Int) + (s : Int) + (j : Int) := by omega
  have a3 : wrap64 ((b : Int) + (s : Int) + (j : Int)) = (b : Int) + (s : Int) + (j : Int) := wrap64_small (by omega) (by omega)
  have a4 : 0 ≤ (b : Int) + (s : Int) + (j : Int) := by omega
  have a5 : (b : Int) + (s : Int) + (j : Int) < (ks.length : Int) := by omega
  have a6 : ¬ (b : Int) + (s : Int) + ((j + 1 : Nat) : Int) = (b : Int) + (s : Int) := by omega
  have a7 : 0 ≤ (b : Int) + (s : Int) + ((j + 1 : Nat) : Int) := by omega
  have a8 : (b : Int) + (s : Int) + ((j + 1 : Nat) : Int) < (ps.length : Int) := by omega
  have a9 : (b : Int) + ((s : Int) + ((j + 1 : Nat) : Int)) - 1 = (b : Int) + (s : Int) + (j : Int) := by omega
  have b1 : (b : Int) + ((s : Int) + ((j + 1 : Nat) : Int)) = (b : Int) + (s : Int) + ((j + 1 : Nat) : Int) := by omega
  have b2 : ¬ (s : Int) + ((j + 1 : Nat) : Int) = (s : Int) := by omega
  have b3 : (s : Int) < (s : Int) + ((j + 1 : Nat) : Int) := by omega
  have b4 : (s : Int) + ((j + 1 : Nat) : Int) - 1 = (s : Int) + (j : Int) := by omega
  have hk := H.hk ((s : Int) + ((j + 1 : Nat) : Int)) (by omega) (by omega)
  have hp := H.hp ((s : Int) + ((j + 1 : Nat) : Int)) (by omega) (by omega)
  have hj' : (j : Int) ≤ w := by omega
  rw [a9] at hk
  rw [b1] at hp
  by_cases g : rdOf false bl ((s : Int) + ((j + 1 : Nat) : Int)) = true
  ·have hsc : scanB bl (s : Int) (j + 1) ((s : Int) + ((j + 1 : Nat) : Int)) = (s : Int) + ((j + 1 : Nat) : Int) := by
    rw [scanB, if_neg (fun e => by rw [g] at e; exact absurd e.2 (by decide))]
   have h := h ((s : Int) + ((j + 1 : Nat) : Int)) (by rw [hsc, if_neg b2])
   rw [b1] at h
   refine Ev.succ h (fun k => ?_)
   rw [galleyref22_Wrap.l3, if_pos a1, a2, a3, if_pos a4, if_pos a5, if_pos (hk.2 g), if_neg a6, if_pos a7, if_pos a8, if_pos ho, hp]
  ·have hsc : scanB bl (s : Int) (j + 1) ((s : Int) + ((j + 1 : Nat) : Int)) = scanB bl (s : Int) j ((s : Int) + (j : Int)) := by
    rw [scanB, if_pos ⟨b3, by simpa using g⟩, b4]
   rw [hsc] at h
   refine Ev.succ (ih hj' h) (fun k => ?_)
   rw [galleyref22_Wrap.l3, if_pos a1, a2, a3, if_pos a4, if_pos a5, if_neg (fun e => g (hk.1 e))]
theorem wrapGo_length (es : List Int) (bl : List Bool) (S w : Int) (hw1 : 1 ≤ w) : ∀ (k : Nat) (s : Int) (out : List Int), 0 ≤ s → s ≤ (es.length : Int) - 1 → ((wrapGo es bl S w k s out).length : Int) ≤ (out.length : Int) + ((es.length : Int) - 1 - s) := by
 intro k
 induction k with
 | zero => intro s out h0 h1; simp only [wrapGo]; omega
 | succ k ih =>
  intro s out h0 h1
  simp only [wrapGo]
  by_cases h : w < (es.length : Int) - 1 - s
  ·rw [if_pos h]
   have hc := cutOf_le bl w s hw1
   have := ih (cutOf bl w s) (out ++ [wrap64 (S + rd es (cutOf bl w s))]) (by omega) (by omega)
   rw [List.length_append, List.length_singleton] at this
   omega
  ·rw [if_neg h]; omega
theorem wrap_l2 {ps ks es : List Int} {bl : List Bool} {b m : Nat} {S : Int} (H : Corr ps ks es bl b m S) (w n : Int) (hw1 : 1 ≤ w) (hw2 : w ≤ 65536) {v : List Int × Int} :
  ∀ (fuel s : Nat) (out : List Int), s ≤ m → m - s < fuel → out.length ≤ b + s →
  Ev (fun k => galleyref22_Wrap.l0 k w n (wrapGo es bl S w fuel (s : Int) out) ((b : Int) + (m : Int) + 1) ps ks) v →
  Ev (fun k => galleyref22_Wrap.l2 k w n out ((b : Int) + (s : Int)) ((b : Int) + (m : Int)) ps ks) v := by
 have hsm := H.sm
 have hm := H.hm
 intro fuel
 induction fuel with
 | zero => intro s out h1 h2; omega
 | succ fuel ih =>
  intro s out h1 h2 h3 h
  have e1 : wrap64 ((b : Int) + (m : Int) - ((b : Int) + (s : Int))) = (m : Int) - (s : Int) := by rw [wrap64_small (by omega) (by omega)]; omega
  have e2 : wrap64 ((b : Int) + (m : Int) + 1) = (b : Int) + (m : Int) + 1 := wrap64_small (by omega) (by omega)
  have e3 : wrap64 ((b : Int) + (s : Int) + w) = (b : Int) + (s : Int) + (w.toNat : Int) := by rw [wrap64_small (by omega) (by omega)]; omega
  have e4 : (es.length : Int) - 1 - (s : Int) = (m : Int) - (s : Int) := by omega
  simp only [wrapGo] at h
  rw [e4] at h
  by_cases g : w < (m : Int) - (s : Int)
  ·rw [if_pos g] at h
   have hc := cutOf_le bl w (s : Int) hw1
   obtain ⟨c, hcn⟩ : ∃ c : Nat, cutOf bl w (s : Int) = (c : Int) := ⟨(cutOf bl w (s : Int)).toNat, by omega⟩
   have i1 : c ≤ m := by omega
   have i2 : m - c < fuel := by omega
   have i3 : (out ++ [wrap64 (S + rd es (cutOf bl w (s : Int)))]).length ≤ b + c := by simp; omega
   have i4 : out.length < 17592186044416 := by omega
   have i5 : (s : Int) + w ≤ (m : Int) := by omega
   have i6 : (w.toNat : Int) ≤ w := by omega
   have i7 : (s : Int) + (w.toNat : Int) = (s : Int) + w := by omega
   have i8 : (m : Int) - (s : Int) > w := g
   rw [hcn] at i3 h
   have hn := ih c _ i1 i2 i3 h
   refine Ev.succ (wrap_l3 H w n hw1 s i5 out i4 w.toNat i6 (fun c' hc' => ?_)) (fun k => ?_)
   ·rw [i7] at hc'
    have : c' = (c : Int) := by rw [hc', ← hcn]; rfl
    rw [this]
    exact hn
   ·rw [galleyref22_Wrap.l2, e1, if_pos i8, e3]
  ·rw [if_neg g] at h
   refine Ev.succ h (fun k => ?_)
   rw [galleyref22_Wrap.l2, e1, if_neg g, e2]

end Go.Proofs.YtijbkiajhicooaaDoor.PW

namespace Go.Proofs.YtijbkiajhicooaaDoor.PW
open Go.RowKit Go.Proofs.YtijbkiajhicooaaDoorW.PrintWords Go.Proofs.YtijbkiajhicooaaDoorW.PrintLast Go.Proofs.YtijbkiajhicooaaDoorW.PrintMore
attribute [local go_sem] max2_int min2_int max_two min_two max_three min_three max_four min_four   -- for this text's walks alone
set_option linter.unusedVariables false
set_option linter.unusedSimpArgs false

theorem rd_cons_map (g : PStep → Int) (pre : List PStep) (x : PStep) (rest : List PStep) : rd (0 :: (pre ++ x :: rest).map g) ((pre.length + 1 : Nat) : Int) = g x := by
 unfold rd
 rw [List.getD_eq_getElem?_getD, Int.toNat_natCast]
 simp
theorem rdOf_cons_map (g : PStep → Bool) (pre : List PStep) (x : PStep) (rest : List PStep) : rdOf false (false :: (pre ++ x :: rest).map g) ((pre.length + 1 : Nat) : Int) = g x := by
 unfold rdOf
 rw [List.getD_eq_getElem?_getD, Int.toNat_natCast]
 simp
theorem atE_le {l : List Int} {p i : Nat} (h : AtE l p i) : i ≤ (stepsL l).length := by
 obtain ⟨h1, h2, pre, h3, h4⟩ := h
 rw [h3, List.length_append]
 omega
theorem atE_last {l : List Int} (hb : Bytes l) (hl : l.length ≤ 4398046511104) {p : Nat} (h : AtE l p (stepsL l).length) : p = l.length := by
 obtain ⟨h1, h2, pre, h3, h4⟩ := h
 by_cases g : p < l.length
 ·have := congrArg List.length h3
  rw [sf_cons hb hl p g, List.length_append, List.length_cons] at this
  omega
 ·omega
theorem atE_lt {l : List Int} {p i : Nat} (h : AtE l p i) (hi : i < (stepsL l).length) : p < l.length := by
 refine Nat.lt_of_not_le fun hge => ?_
 obtain rfl : p = l.length := by have := h.1; omega
 have := atE_end h
 rw [List.length_map] at this
 omega
theorem atE_get {l : List Int} (hb : Bytes l) (hl : l.length ≤ 4398046511104) {p i : Nat} (h : AtE l p i) (hp : p < l.length) : ∃ pre rest, stepsL l = pre ++ ((p : Int), ofL l p) :: rest ∧ pre.length = i := by
 obtain ⟨h1, h2, pre, h3, h4⟩ := h
 exact ⟨pre, _, by rw [h3, sf_cons hb hl p hp], h4⟩
section
variable {l : List Int} (hb : Bytes l) (hl : l.length ≤ 4398046511103) {S C b : Nat} (hSC : S ≤ C) (hC : C ≤ l.length) (hv : Vis l C) (hplain : PlainTo l (S : Int) (C : Int)) (hA : AtE l S b)
include hb hl hSC hC hv hplain hA in
theorem corr_at : ∀ (t : Nat), t ≤ (stepsL (piece l S C)).length → ∃ q : Nat, AtE (piece l S C) q t ∧ AtE l (S + q) (b + t) ∧ (t < (stepsL (piece l S C)).length → ¬ rd (ksL l) ((b + t : Nat) : Int) = 2) ∧
  (1 ≤ t → rd (edgesOf (stepsL (piece l S C))) (t : Int) = (q : Int) ∧ (rd (ksL l) ((b + t : Nat) - 1 : Int) = 1 ↔ rdOf false (blanksOf (stepsL (piece l S C))) (t : Int) = true)) := by
 have hl4 : l.length ≤ 4398046511104 := by omega
 have hlen := piece_len l S C hC
 have hbY := hb.piece S C
 have hlY : (piece l S C).length ≤ 4398046511104 := by omega
 have hne2 : ∀ (q t : Nat), AtE (piece l S C) q t → AtE l (S + q) (b + t) → t < (stepsL (piece l S C)).length → ¬ rd (ksL l) ((b + t : Nat) : Int) = 2 := by
  intro q t h1 h2 h3
  have hq := atE_lt h1 h3
  have hlt : S + q < l.length := by omega
  rw [atE_kind hb hl4 h2 hlt, kind_end hb hl4 (S + q) hlt]
  have := hplain ((S + q : Nat) : Int) (by omega) (by omega)
  exact fun e => e.elim this.1 this.2
 intro t
 induction t with
 | zero => intro _; exact ⟨0, atE_zero _, hA, hne2 0 0 (atE_zero _) hA, fun h => absurd h (by decide)⟩
 | succ t ih =>
  intro ht
  obtain ⟨q, h1, h2, h3, h4⟩ := ih (by omega)
  clear h3 h4 ih
  have hq := atE_lt h1 (by omega)
  have hlt : S + q < C := by omega
  have hltl : S + q < l.length := by omega
  have hr : S + q + widL l (S + q) ≤ C := by
   have := reach_vis hb hl4 C hC hv _ (S + q) rfl (by omega)
   cases this with
   | here => omega
   | step _ _ h => exact h.le
  have hws := wid_slice hb hl4 S C (S + q) (by omega) hlt hC hr
  have hos := (long_slice hb hl4 S C (S + q) (by omega) hlt hC hr).2
  have hsub : S + q - S = q := by omega
  rw [hsub] at hws hos
  have g1 := atE_next hbY hlY h1 hq
  have g2 := atE_next hb hl4 h2 hltl
  rw [hws] at g1
  have g2' : AtE l (S + (q + widL l (S + q))) (b + (t + 1)) := by
   rw [← Nat.add_assoc, ← Nat.add_assoc]; exact g2
  refine ⟨q + widL l (S + q), g1, g2', hne2 _ _ g1 g2', fun _ => ?_⟩
  obtain ⟨pre, rest, hst, hpre⟩ := atE_get hbY hlY h1 hq
  have hw := ofL_wid hbY hlY q hq
  have hwr : wrap64 ((q : Int) + (widL l (S + q) : Int)) = ((q + widL l (S + q) : Nat) : Int) := by rw [wrap64_small (by omega) (by omega)]; omega
  have hcast : ((b + (t + 1) : Nat) : Int) - 1 = ((b + t : Nat) : Int) := by omega
  rw [hws] at hw
  have hkd := atE_kind hb hl4 h2 hltl
  have e1 : rd (edgesOf (stepsL (piece l S C))) ((t + 1 : Nat) : Int) = ((q + widL l (S + q) : Nat) : Int) := by
   unfold edgesOf
   rw [hst, ← hpre, rd_cons_map (fun x => wrap64 (x.1 + x.2.2.1)) pre _ rest]
   show wrap64 ((q : Int) + (ofL (piece l S C) q).2.1) = _
   rw [hw]
   exact hwr
  have e2 : rdOf false (blanksOf (stepsL (piece l S C))) ((t + 1 : Nat) : Int) = (kindOf (ofL l (S + q)).1 (ofL l (S + q)).2.2 == 1) := by
   unfold blanksOf
   rw [hst, ← hpre, rdOf_cons_map (fun x => kindOf x.2.1 x.2.2.2 == 1) pre _ rest]
   show (kindOf (ofL (piece l S C) q).1 (ofL (piece l S C) q).2.2 == 1) = _
   rw [hos]
  refine ⟨e1, ?_⟩
  rw [hcast, hkd, e2]
  simp
include hb hl hSC hC hv hplain hA in
theorem corr_end : AtE l C (b + (stepsL (piece l S C)).length) := by
 obtain ⟨q, h1, h2, h3, h4⟩ := corr_at hb hl hSC hC hv hplain hA _ (Nat.le_refl _)
 clear h3 h4
 have hlen := piece_len l S C hC
 have := atE_last (hb.piece S C) (by omega) h1
 rw [show S + q = C by omega] at h2
 exact h2
include hb hl hSC hC hv hplain hA in
theorem corr_line : Corr (psL l) (ksL l) (edgesOf (stepsL (piece l S C))) (blanksOf (stepsL (piece l S C))) b (stepsL (piece l S C)).length (S : Int) := by
 have hl4 : l.length ≤ 4398046511104 := by omega
 have hE := corr_end hb hl hSC hC hv hplain hA
 have hle := atE_le hE
 have hsl := stepsFrom_length (strOfNums l) 0
 rw [strOfNums_size] at hsl
 have hsl2 : (stepsL l).length ≤ l.length := by unfold stepsL allSteps; omega
 refine ⟨by simp [edgesOf], fun t h1 h2 => ?_, fun t h1 h2 => ?_, by simp; omega, by simp; omega, by omega⟩
 ·obtain ⟨u, rfl⟩ : ∃ u : Nat, t = (u : Int) := ⟨t.toNat, by omega⟩
  have hu1 : 1 ≤ u := by omega
  obtain ⟨q, _, _, _, h⟩ := corr_at hb hl hSC hC hv hplain hA u (by omega)
  have h := (h hu1).2
  rw [show ((b + u : Nat) : Int) = (b : Int) + (u : Int) from Int.natCast_add b u] at h
  exact h
 ·obtain ⟨u, rfl⟩ : ∃ u : Nat, t = (u : Int) := ⟨t.toNat, by omega⟩
  have hu1 : 1 ≤ u := by omega
  obtain ⟨q, hq, hq2, h3, h⟩ := corr_at hb hl hSC hC hv hplain hA u (by omega)
  have h := (h hu1).1
  clear h3
  have hwr : wrap64 ((S : Int) + (q : Int)) = ((S + q : Nat) : Int) := by rw [wrap64_small (by have := hq2.1; omega) (by have := hq2.1; omega)]; omega
  have hp := atE_place hb hl4 hq2
  rw [show ((b + u : Nat) : Int) = (b : Int) + (u : Int) from Int.natCast_add b u] at hp
  rw [hp, h, hwr]
include hb hl hSC hC hv hplain hA in
theorem wrap_l1 (hend : C = l.length ∨ (C < l.length ∧ (rd l (C : Int) = 10 ∨ rd l (C : Int) = 13))) (w : Int) (out : List Int) {v : List Int × Int}
  (h : Ev (fun k => galleyref22_Wrap.l2 k w ((ksL l).length : Int) out (b : Int) ((b : Int) + ((stepsL (piece l S C)).length : Int)) (psL l) (ksL l)) v) :
  ∀ (j t : Nat), t + j = (stepsL (piece l S C)).length → Ev (fun k => galleyref22_Wrap.l1 k w ((ksL l).length : Int) out (b : Int) ((b : Int) + (t : Int)) (psL l) (ksL l)) v := by
 have hl4 : l.length ≤ 4398046511104 := by omega
 have hE := corr_end hb hl hSC hC hv hplain hA
 have H := corr_line hb hl hSC hC hv hplain hA
 have hsm := H.sm
 have hlk := H.lk
 clear H
 intro j
 induction j with
 | zero =>
  intro t ht
  obtain rfl : t = (stepsL (piece l S C)).length := by omega
  refine Ev.succ (h := fun k => galleyref22_Wrap.j3 k w ((ksL l).length : Int) out (b : Int) ((b : Int) + ((stepsL (piece l S C)).length : Int)) (psL l) (ksL l)) (Ev.succ h (fun k => by rw [galleyref22_Wrap.j3])) (fun k => ?_)
  rcases hend with hend | ⟨hlt, hb2⟩
  ·subst hend
   have := atE_end hE
   rw [galleyref22_Wrap.l1, if_neg (by omega)]
  ·obtain ⟨c1, c2, c3⟩ := atE_len hb hl4 hE hlt
   have hk := (kind_end hb hl4 C hlt).2 hb2
   rw [← atE_kind hb hl4 hE hlt] at hk
   have c0 : 0 ≤ (b : Int) + ((stepsL (piece l S C)).length : Int) := by clear hk; omega
   rw [show ((b + (stepsL (piece l S C)).length : Nat) : Int) = (b : Int) + ((stepsL (piece l S C)).length : Int) from Int.natCast_add _ _] at c1 hk
   rw [galleyref22_Wrap.l1, if_pos c1, if_pos c0, if_pos c1, if_pos hk]
 | succ j ih =>
  intro t ht
  have c1 : (b : Int) + (t : Int) < ((ksL l).length : Int) := by omega
  have c0 : 0 ≤ (b : Int) + (t : Int) := by omega
  have e1 : wrap64 ((b : Int) + (t : Int) + 1) = (b : Int) + ((t + 1 : Nat) : Int) := by rw [wrap64_small (by omega) (by omega)]; omega
  have ih1 := ih (t + 1) (by omega)
  have htl : t < (stepsL (piece l S C)).length := by omega
  obtain ⟨q, _, _, h3, _⟩ := corr_at hb hl hSC hC hv hplain hA t (Nat.le_of_lt htl)
  have h3 := h3 htl
  rw [show ((b + t : Nat) : Int) = (b : Int) + (t : Int) from Int.natCast_add b t] at h3
  refine Ev.succ ih1 (fun k => ?_)
  rw [galleyref22_Wrap.l1, if_pos c1, if_pos c0, if_pos c1, if_neg h3, e1]
theorem wrapGo_out (es : List Int) (bl : List Bool) (S w : Int) : ∀ (k : Nat) (s : Int) (out : List Int), wrapGo es bl S w k s out = out ++ wrapGo es bl S w k s [] := by
 intro k
 induction k with
 | zero => intro s out; simp [wrapGo]
 | succ k ih =>
  intro s out
  simp only [wrapGo]
  by_cases h : w < (es.length : Int) - 1 - s
  ·rw [if_pos h, if_pos h, ih _ (out ++ _), ih _ ([] ++ _)]
   simp
  ·rw [if_neg h, if_neg h]
   simp
include hb hl hSC hC hv hplain hA in
theorem wrap_line (hend : C = l.length ∨ (C < l.length ∧ (rd l (C : Int) = 10 ∨ rd l (C : Int) = 13))) (hS : S < l.length) (w : Int) (hw1 : 1 ≤ w) (hw2 : w ≤ 65536) (out : List Int) (ho : out.length ≤ b) {v : List Int × Int}
  (h : Ev (fun k => galleyref22_Wrap.l0 k w ((ksL l).length : Int) (out ++ wrapsOf (piece l S C) (S : Int) w) ((b : Int) + ((stepsL (piece l S C)).length : Int) + 1) (psL l) (ksL l)) v) :
  Ev (fun k => galleyref22_Wrap.l0 k w ((ksL l).length : Int) out (b : Int) (psL l) (ksL l)) v := by
 have hl4 : l.length ≤ 4398046511104 := by omega
 have H := corr_line hb hl hSC hC hv hplain hA
 obtain ⟨c1, c2, c3⟩ := atE_len hb hl4 hA hS
 have hm := H.hm
 unfold wrapsOf at h
 rw [← wrapGo_out] at h
 have h2 := wrap_l2 H w ((ksL l).length : Int) hw1 hw2 (edgesOf (stepsL (piece l S C))).length 0 out (Nat.zero_le _) (by omega) (by omega) h
 rw [show (b : Int) + ((0 : Nat) : Int) = (b : Int) by omega] at h2
 have h1 := wrap_l1 hb hl hSC hC hv hplain hA hend w out h2 (stepsL (piece l S C)).length 0 (by omega)
 rw [show (b : Int) + ((0 : Nat) : Int) = (b : Int) by omega] at h1
 refine Ev.succ h1 (fun k => ?_)
 rw [galleyref22_Wrap.l0, if_pos c1]
end
theorem wrapsOf_length {l : List Int} (S C : Nat) (hC : C ≤ l.length) (hSC : S ≤ C) (st w : Int) (hw1 : 1 ≤ w) : (wrapsOf (piece l S C) st w).length ≤ (stepsL (piece l S C)).length ∧ (stepsL (piece l S C)).length ≤ C - S := by
 have hsl := stepsFrom_length (strOfNums (piece l S C)) 0
 rw [strOfNums_size, piece_len l S C hC] at hsl
 have := wrapGo_length (edgesOf (stepsL (piece l S C))) (blanksOf (stepsL (piece l S C))) st w hw1 (edgesOf (stepsL (piece l S C))).length 0 [] (Int.le_refl _) (by simp [edgesOf])
 have he : (edgesOf (stepsL (piece l S C))).length = (stepsL (piece l S C)).length + 1 := by simp [edgesOf]
 have hx : (stepsL (piece l S C)).length = (stepsFrom (strOfNums (piece l S C)) 0).length := rfl
 unfold wrapsOf
 simp only [List.length_nil] at this
 refine ⟨?_, by omega⟩
 show (wrapGo (edgesOf (stepsL (piece l S C))) (blanksOf (stepsL (piece l S C))) st w (edgesOf (stepsL (piece l S C))).length 0 []).length ≤ _
 omega

end Go.Proofs.YtijbkiajhicooaaDoor.PW

namespace Go.Proofs.YtijbkiajhicooaaDoor.PW
open Go.RowKit Go.Proofs.YtijbkiajhicooaaDoorW.PrintWords Go.Proofs.YtijbkiajhicooaaDoorW.PrintLast Go.Proofs.YtijbkiajhicooaaDoorW.PrintMore
attribute [local go_sem] max2_int min2_int max_two min_two max_three min_three max_four min_four   -- for this text's walks alone
set_option linter.unusedVariables false
set_option linter.unusedSimpArgs false

/-- The breaks of all lines. -/
def allWraps (l : List Int) (w : Int) (rs : List S127) : List Int := rs.flatMap fun r => wrapsOf (piece l r.f0.toNat r.f1.toNat) r.f0 w
theorem wraps_empty (w st : Int) (hw1 : 1 ≤ w) : wrapsOf [] st w = [] := by
 have : stepsL [] = [] := sf_nil (l := []) 0 (by simp)
 unfold wrapsOf
 rw [show allSteps (strOfNums []) = [] from this]
 show wrapGo [0] [false] st w 1 0 [] = []
 simp only [wrapGo]
 rw [if_neg (by simp; omega)]
theorem wrap_lines {l : List Int} (hb : Bytes l) (hl : l.length ≤ 4398046511103) (w : Int) (hw1 : 1 ≤ w) (hw2 : w ≤ 65536) : ∀ (rs : List S127) (S b : Nat) (out : List Int), LChain l (S : Int) rs → AtE l S b → out.length ≤ b →
  Ev (fun k => galleyref22_Wrap.l0 k w ((ksL l).length : Int) out (b : Int) (psL l) (ksL l)) (out ++ allWraps l w rs, 0) := by
 have hl4 : l.length ≤ 4398046511104 := by omega
 intro rs
 induction rs with
 | nil => intro S b out h; exact absurd h (by simp [LChain])
 | cons r rs ih =>
  intro S b out h hA ho
  obtain ⟨h0, h1, h2, h3⟩ := h
  obtain ⟨C, hC⟩ : ∃ C : Nat, r.f1 = (C : Int) := ⟨r.f1.toNat, by omega⟩
  have hSC : S ≤ C := by omega
  rw [hC] at h2
  have hone : wrapsOf (piece l r.f0.toNat r.f1.toNat) r.f0 w = wrapsOf (piece l S C) (S : Int) w := by rw [h0, hC, Int.toNat_natCast, Int.toNat_natCast]
  unfold allWraps
  rw [List.flatMap_cons, hone]
  by_cases hS : S < l.length
  ·rcases h3 with ⟨h3, h4, _⟩ | ⟨h3, h4⟩
   ·have hCl : C = l.length := by omega
    have hv : Vis l C := vis_low hb hl4 C (by omega) (.inl hCl)
    have hE := corr_end hb hl hSC (by omega) hv h2 hA
    refine wrap_line hb hl hSC (by omega) hv h2 hA (.inl hCl) hS w hw1 hw2 out ho ?_
    rw [hCl] at hE
    have hn := atE_end hE
    rw [hCl]
    have hnn : ¬ (b : Int) + ((stepsL (piece l S l.length)).length : Int) + 1 < ((ksL l).length : Int) := by omega
    rw [h3, List.flatMap_nil, List.append_nil]
    refine Ev.succ (Ev.pure (out ++ wrapsOf (piece l S l.length) (S : Int) w, (0 : Int))) (fun k => ?_)
    rw [galleyref22_Wrap.l0, if_neg hnn]
   ·obtain ⟨n, hn, hE⟩ := lend_of h3 (by omega)
    rw [hC, Int.toNat_natCast] at hE
    rw [hn] at h4
    obtain ⟨e1, e2, e3, e4, e5⟩ := hE
    have hv : Vis l C := vis_low hb hl4 C (by omega) (.inr (end_low e3))
    have hEd := corr_end hb hl hSC (Nat.le_of_lt e1) hv h2 hA
    have hA1 := atE_next hb hl4 hEd e1
    rw [(low_long hb hl4 C e1 (end_low e3)).2] at hA1
    obtain ⟨q1, q2⟩ := wrapsOf_length S C (Nat.le_of_lt e1) hSC (S : Int) w hw1
    obtain ⟨m, hm⟩ : ∃ m, (stepsL (piece l S C)).length = m := ⟨_, rfl⟩
    have hlen : (out ++ wrapsOf (piece l S C) (S : Int) w).length ≤ b + m + 1 := by rw [List.length_append]; omega
    refine wrap_line hb hl hSC (Nat.le_of_lt e1) hv h2 hA (.inr ⟨e1, e3⟩) hS w hw1 hw2 out ho ?_
    rw [hm] at hA1 ⊢
    rw [← List.append_assoc]
    have hc1 : (b : Int) + (m : Int) + 1 = ((b + m + 1 : Nat) : Int) := by omega
    rw [hc1]
    rcases e5 with e5 | ⟨e5, e6, e7, e8⟩
    ·subst e5
     exact ih _ _ _ h4 hA1 hlen
    ·subst e5
     have hA2 := atE_next hb hl4 hA1 e6
     rw [(low_long hb hl4 (C + 1) e6 (end_low (.inl e8))).2] at hA2
     obtain ⟨c1, c2, c3⟩ := atE_len hb hl4 hA1 e6
     have c0 : 0 ≤ ((b + m + 1 : Nat) : Int) := by omega
     have hsm := hA1.2.1
     have hz : wrap64 (((b + m + 1 : Nat) : Int) - ((b + m + 1 : Nat) : Int)) = 0 := by rw [Int.sub_self]; exact wrap64_small (by decide) (by decide)
     have hng : ¬ (0 : Int) > w := by omega
     have hs1 : wrap64 (((b + m + 1 : Nat) : Int) + 1) = ((b + m + 1 + 1 : Nat) : Int) := by rw [wrap64_small (by omega) (by omega)]; omega
     have hlen2 : (out ++ wrapsOf (piece l S C) (S : Int) w).length ≤ b + m + 1 + 1 := Nat.le_succ_of_le hlen
     have hrec := ih _ _ _ h4 hA2 hlen2
     have hk := (kind_end hb hl4 (C + 1) e6).2 (.inl e8)
     rw [← atE_kind hb hl4 hA1 e6] at hk
     refine Ev.succ (h := fun k => galleyref22_Wrap.l1 k w ((ksL l).length : Int) (out ++ wrapsOf (piece l S C) (S : Int) w) ((b + m + 1 : Nat) : Int) ((b + m + 1 : Nat) : Int) (psL l) (ksL l)) ?_ (fun k => by rw [galleyref22_Wrap.l0, if_pos c1])
     refine Ev.succ (h := fun k => galleyref22_Wrap.j3 k w ((ksL l).length : Int) (out ++ wrapsOf (piece l S C) (S : Int) w) ((b + m + 1 : Nat) : Int) ((b + m + 1 : Nat) : Int) (psL l) (ksL l)) ?_ (fun k => by rw [galleyref22_Wrap.l1, if_pos c1, if_pos c0, if_pos c1, if_pos hk])
     refine Ev.succ (h := fun k => galleyref22_Wrap.l2 k w ((ksL l).length : Int) (out ++ wrapsOf (piece l S C) (S : Int) w) ((b + m + 1 : Nat) : Int) ((b + m + 1 : Nat) : Int) (psL l) (ksL l)) ?_ (fun k => by rw [galleyref22_Wrap.j3])
     exact Ev.succ hrec (fun k => by rw [galleyref22_Wrap.l2, hz, if_neg hng, hs1])
  ·have hSl : S = l.length := by have := hA.1; omega
   subst hSl
   have hn := atE_end hA
   have hCl : C = l.length := by
    rcases h3 with ⟨_, h4, _⟩ | ⟨h3, _⟩
    ·omega
    ·rcases h3 with h | h | h <;> omega
   have hrs : rs = [] := by
    rcases h3 with ⟨h3, _⟩ | ⟨h3, _⟩
    ·exact h3
    ·rcases h3 with h | h | h <;> omega
   have hpc : piece l l.length C = [] := by
    apply List.eq_nil_of_length_eq_zero
    rw [piece_len l _ _ (by omega)]
    omega
   rw [hpc, wraps_empty w _ hw1, hrs, List.flatMap_nil, List.append_nil, List.append_nil]
   refine Ev.succ (Ev.pure (out, (0 : Int))) (fun k => ?_)
   rw [galleyref22_Wrap.l0, if_neg (by omega)]
theorem words_wrap_l0 {l : List Int} (hl : l.length ≤ 4398046511103) (w : Int) (hw1 : 1 ≤ w) (hw2 : w ≤ 65536) : ∀ (rs : List S127) (i S : Nat) (out : List Int), (allLines l).drop i = rs → LChain l (S : Int) rs → S ≤ l.length → out.length ≤ S →
  Ev (fun k => words_Wrap.l0 k l w out ((allLines l).length : Int) (i : Int)) (out ++ allWraps l w rs, 0) := by
 have hal := allLines_length l
 intro rs
 induction rs with
 | nil => intro i S out h0 h; exact absurd h (by simp [LChain])
 | cons r rs ih =>
  intro i S out hd h hSl ho
  obtain ⟨h0, h1, h2, h3⟩ := h
  have hi : i < (allLines l).length := by
   refine Nat.lt_of_not_le fun h => ?_
   rw [List.drop_of_length_le h] at hd
   cases hd
  have hlen0 : (allLines l).length - i = rs.length + 1 := by rw [← List.length_drop, hd]; rfl
  have hnn : rs.length = 0 → ¬ ((i + 1 : Nat) : Int) < ((allLines l).length : Int) := fun e => by omega
  clear hlen0
  have hd2 := hd
  rw [List.drop_eq_getElem_cons hi] at hd2
  obtain ⟨hr, hd3⟩ := List.cons.inj hd2
  have hrd := rd_line (allLines l) i hi
  rw [hr] at hrd
  have hli := line_ev hl i hi
  rw [hrd] at hli
  obtain ⟨C, hC⟩ : ∃ C : Nat, r.f1 = (C : Int) := ⟨r.f1.toNat, by omega⟩
  have hSC : S ≤ C := by omega
  have hCl : C ≤ l.length := by
   rcases h3 with ⟨_, h4, _⟩ | ⟨h3, _⟩
   ·omega
   ·rcases h3 with h | h | h <;> omega
  obtain ⟨q1, q2⟩ := wrapsOf_length S C hCl hSC (S : Int) w hw1
  have hpl := piece_len l S C hCl
  have hwr : words_wrapped.f (piece l S C) (S : Int) w = some (wrapsOf (piece l S C) (S : Int) w) := by
   unfold words_wrapped.f
   rw [if_pos ⟨by omega, hw1, hw2⟩]
  have hlen : (out ++ wrapsOf (piece l S C) (S : Int) w).length ≤ C := by rw [List.length_append]; omega
  have c1 : (i : Int) < ((allLines l).length : Int) := by omega
  have c2 : (0 : Int) ≤ (S : Int) := by omega
  have c3 : (S : Int) ≤ (C : Int) := by omega
  have c4 : (C : Int) ≤ (l.length : Int) := by omega
  have c5 : out.length + (wrapsOf (piece l S C) (S : Int) w).length < 17592186044416 := by omega
  have hw : wrap64 ((i : Int) + 1) = ((i + 1 : Nat) : Int) := by rw [wrap64_small (by omega) (by omega)]; omega
  have hone : wrapsOf (piece l r.f0.toNat r.f1.toNat) r.f0 w = wrapsOf (piece l S C) (S : Int) w := by rw [h0, hC, Int.toNat_natCast, Int.toNat_natCast]
  unfold allWraps
  rw [List.flatMap_cons, hone, ← List.append_assoc]
  rw [h0, hC] at hli
  refine Ev.succ (h := fun k => words_Wrap.l0 k l w (out ++ wrapsOf (piece l S C) (S : Int) w) ((allLines l).length : Int) ((i + 1 : Nat) : Int)) ?_ (fun k => ?_)
  ·rcases h3 with ⟨h3, _⟩ | ⟨h3, h4⟩
   ·subst h3
    have hnn := hnn rfl
    rw [List.flatMap_nil, List.append_nil]
    refine Ev.succ (Ev.pure (out ++ wrapsOf (piece l S C) (S : Int) w, (0 : Int))) (fun k => ?_)
    rw [words_Wrap.l0, if_neg hnn]
   ·obtain ⟨n, hn, hE⟩ := lend_of h3 (by omega)
    rw [hC, Int.toNat_natCast] at hE
    rw [hn] at h4
    have hCn : C ≤ n := by rcases hE.2.2.2.2 with e | ⟨e, _⟩ <;> omega
    exact ih (i + 1) n _ hd3 h4 hE.2.1 (Nat.le_trans hlen hCn)
  ·rw [words_Wrap.l0, if_pos c1, hli, Option.bind_some]
   dsimp only
   rw [if_pos c2, if_pos c3, if_pos c4, Int.toNat_natCast, Int.toNat_natCast, hwr, Option.bind_some, if_pos c5, hw]
/-- The answer of Wrap. -/
def wrapAt (l : List Int) (w : Int) : List Int × Int := if w < 1 ∨ w > 65536 then ([], 2) else (allWraps l w (allLines l), 0)
theorem words_wrap_ev {l : List Int} (hl : l.length ≤ 4398046511103) (w : Int) : Ev (fun k => words_Wrap.f k l w) (wrapAt l w) := by
 have hall : lines_Count.f l = some ((allLines l).length : Int) := by
  unfold lines_Count.f lines_all.f
  rw [if_pos hl, Option.bind_some]
 have hj : ∀ b : Bool, b = decide (w < 1 ∨ w > 65536) → Ev (fun k => words_Wrap.j0 k l w b) (wrapAt l w) := by
  intro b hb'
  unfold wrapAt
  by_cases h : w < 1 ∨ w > 65536
  ·rw [if_pos h]
   refine Ev.succ (Ev.pure (([] : List Int), (2 : Int))) (fun k => ?_)
   rw [words_Wrap.j0, if_pos (by rw [hb', decide_eq_true h])]
  ·rw [if_neg h]
   have := words_wrap_l0 hl w (by omega) (by omega) (allLines l) 0 0 [] rfl (allLines_chain l) (Nat.zero_le _) (Nat.le_refl _)
   rw [List.nil_append] at this
   refine Ev.succ this (fun k => ?_)
   rw [words_Wrap.j0, if_neg (by rw [hb', decide_eq_false h]; decide), hall, Option.bind_some]
   rfl
 unfold words_Wrap.f
 by_cases h1 : w < 1
 ·simp only [if_pos h1]
  exact hj _ (decide_eq_true (.inl h1)).symm
 simp only [if_neg h1]
 exact hj _ (by by_cases g : w > 65536 <;> simp [g, h1])
theorem ref_wrap_ev {l : List Int} (hb : Bytes l) (hl : l.length ≤ 4398046511103) (w : Int) : Ev (fun k => galleyref22_Wrap.f k l w) (wrapAt l w) := by
 have hj : ∀ b : Bool, b = decide (w < 1 ∨ w > 65536) → Ev (fun k => galleyref22_Wrap.j0 k l w b) (wrapAt l w) := by
  intro b hb'
  unfold wrapAt
  by_cases h : w < 1 ∨ w > 65536
  ·rw [if_pos h]
   refine Ev.succ (Ev.pure (([] : List Int), (2 : Int))) (fun k => ?_)
   rw [galleyref22_Wrap.j0, if_pos (by rw [hb', decide_eq_true h])]
  ·rw [if_neg h]
   have := wrap_lines hb hl w (by omega) (by omega) (allLines l) 0 0 [] (allLines_chain l) (atE_zero l) (Nat.le_refl _)
   rw [List.nil_append] at this
   refine Ev.succ (Ev.bind (h := fun k t => galleyref22_Wrap.l0 k w (t.2.length : Int) [] 0 t.1 t.2) (of22_ev hb hl) this) (fun k => ?_)
   rw [galleyref22_Wrap.j0, if_neg (by rw [hb', decide_eq_false h]; decide)]
 unfold galleyref22_Wrap.f
 by_cases h1 : w < 1
 ·simp only [if_pos h1]
  exact hj _ (decide_eq_true (.inl h1)).symm
 simp only [if_neg h1]
 exact hj _ (by by_cases g : w > 65536 <;> simp [g, h1])
theorem same_ints_l0 (a : List Int) (hl : a.length ≤ 4398046511104) : ∀ (n i : Nat), a.length - i = n → i ≤ a.length → Ev (fun k => galleyref01_SameInts.l0 k a a (i : Int)) true := by
 intro n
 induction n with
 | zero =>
  intro i hn hi
  obtain rfl : i = a.length := by omega
  refine Ev.succ (h := fun _ => some true) (Ev.pure true) (fun k => ?_)
  rw [galleyref01_SameInts.l0, if_neg (by omega)]
 | succ n ih =>
  intro i hn hi
  have hw : wrap64 ((i : Int) + 1) = ((i + 1 : Nat) : Int) := by rw [wrap64_small (by omega) (by omega)]; omega
  refine Ev.succ (ih (i + 1) (by omega) (by omega)) (fun k => ?_)
  rw [galleyref01_SameInts.l0, if_pos (by omega), if_pos (by omega), if_pos (by omega), hw, if_pos rfl]
theorem same_ints (a : List Int) (hl : a.length ≤ 4398046511104) : Ev (fun k => galleyref01_SameInts.f k a a) true := by
 refine Ev.congr (same_ints_l0 a hl a.length 0 (by omega) (by omega)) (fun k => ?_)
 unfold galleyref01_SameInts.f
 rw [if_pos rfl]
 rfl
theorem allWraps_length {l : List Int} (w : Int) (hw1 : 1 ≤ w) : ∀ (rs : List S127) (S : Nat), LChain l (S : Int) rs → S ≤ l.length → S + (allWraps l w rs).length ≤ l.length := by
 intro rs
 induction rs with
 | nil => intro S h; exact absurd h (by simp [LChain])
 | cons r rs ih =>
  intro S h hSl
  obtain ⟨h0, h1, h2, h3⟩ := h
  obtain ⟨C, hC⟩ : ∃ C : Nat, r.f1 = (C : Int) := ⟨r.f1.toNat, by omega⟩
  have hSC : S ≤ C := by omega
  have hCl : C ≤ l.length := by
   rcases h3 with ⟨_, h4, _⟩ | ⟨h3, _⟩
   ·omega
   ·rcases h3 with h | h | h <;> omega
  obtain ⟨q1, q2⟩ := wrapsOf_length S C hCl hSC (S : Int) w hw1
  have hone : wrapsOf (piece l r.f0.toNat r.f1.toNat) r.f0 w = wrapsOf (piece l S C) (S : Int) w := by rw [h0, hC, Int.toNat_natCast, Int.toNat_natCast]
  unfold allWraps
  rw [List.flatMap_cons, hone, List.length_append]
  rcases h3 with ⟨h3, _⟩ | ⟨h3, h4⟩
  ·rw [h3, List.flatMap_nil, List.length_nil]
   omega
  ·obtain ⟨n, hn, hE⟩ := lend_of h3 (by omega)
   rw [hC, Int.toNat_natCast] at hE
   rw [hn] at h4
   have hCn : C ≤ n := by rcases hE.2.2.2.2 with e | ⟨e, _⟩ <;> omega
   have := ih n h4 hE.2.1
   unfold allWraps at this
   omega
theorem wrapAt_length (l : List Int) (w : Int) : (wrapAt l w).1.length ≤ l.length := by
 unfold wrapAt
 split
 ·exact Nat.zero_le _
 ·have := allWraps_length (l := l) w (by omega) (allLines l) 0 (allLines_chain l) (Nat.zero_le _)
  show (allWraps l w (allLines l)).length ≤ _
  omega
end Go.Proofs.YtijbkiajhicooaaDoor.PW
namespace Go.Proofs.YtijbkiajhicooaaDoor.Pure
open Go.Proofs.YtijbkiajhicooaaDoor.PW Go.RowKit
theorem WordsWraps (l0 : List Int) (a1 : Int) (hl : l0.length ≤ 1048576) (hw : ∀ x ∈ l0, (Lit.int .u8 x).wf = true) (_ha1 : (Lit.int .i64 a1).wf = true) : ∃ k, galleylaw22_WordsWraps.f k l0 a1 = some true := by
 have hb := bytes_of_wf hw
 have hlen := wrapAt_length l0 a1
 refine Ev.some (Ev.bind (Ev.of_eq fun _ => rfl) ?_)
 refine Ev.bind (Ev.of_eq fun _ => own_some l0 (by omega)) ?_
 refine Ev.bind (words_wrap_ev (by omega) a1) ?_
 refine Ev.bind (ref_wrap_ev hb (by omega) a1) ?_
 refine Ev.bind (same_ints (wrapAt l0 a1).1 (by omega)) ?_
 refine Ev.of_eq fun _ => ?_
 simp
end Go.Proofs.YtijbkiajhicooaaDoor.Pure
namespace Go.Proofs.YtijbkiajhicooaaDoor.PW

end Go.Proofs.YtijbkiajhicooaaDoor.PW

