-- Written by merge.py, a program of this session's: PureColB PureFloor PureColC PureWordsAll PureWordsGo PureWordsColumns
import Derived.Test.YtijbkiajhicooaaDoorWordsColumnsM1
import Derived.Test.YtijbkiajhicooaaDoorWordsColumnsM2
import Derived.Test.YtijbkiajhicooaaDoorWordsColumnsM5
import Derived.Test.YtijbkiajhicooaaDoorWordsColumnsM4
import Derived.Test.YtijbkiajhicooaaDoorWordsColumnsM3
namespace Go.Proofs.YtijbkiajhicooaaDoor.PW
open Go.RowKit Go.Proofs.YtijbkiajhicooaaDoorW.PrintWords Go.Proofs.YtijbkiajhicooaaDoorW.PrintLast Go.Proofs.YtijbkiajhicooaaDoorW.PrintMore
attribute [local go_sem] max2_int min2_int max_two min_two max_three min_three max_four min_four   -- for this text's walks alone
set_option linter.unusedVariables false
set_option linter.unusedSimpArgs false

theorem colStep_next {l : List Int} (hb : Bytes l) (hl : l.length ≤ 4398046511104) (w : Int) (p : Nat) (hp : p < l.length) (h : rd l (p : Int) ≠ 10 ∧ rd l (p : Int) ≠ 13) (col : Int) (q : Int) : colStep w col (q, ofL l p) = colNext l w p col := by
 have h9 := rune_byte hb hl p hp 9 (by decide) (by decide)
 unfold colStep colNext
 by_cases g : rd l (p : Int) = 9
 ·rw [if_pos (h9.2 g), if_pos g]
 ·rw [if_neg (fun e => g (h9.1 e)), if_neg g, if_neg (fun e => e.elim h.1 h.2)]
section
variable {l : List Int} (hb : Bytes l) (hl : l.length ≤ 4398046511103) (place w : Int)
include hb hl in
theorem col_step {p i : Nat} {col : Int} {v : Int × Int} (hA : AtE l p i) (hp : p < l.length) (hw0 : 1 ≤ w) (hn : startsB l p = false ∨ col = 0) (hnb : ((p + widL l p : Nat) : Int) ≤ place)
  (h : Ev (fun k => colL0 l place w k (colNext l w p col) ((i + 1 : Nat) : Int)) v) : Ev (fun k => colL0 l place w k col (i : Int)) v :=
 col_l0_j3 hb hl place w hA hp hn (col_j3_next hb hl place w hA hp hw0 hnb h)
include hb hl in
theorem col_run {S C : Nat} (hplain : PlainTo l (S : Int) (C : Int)) (hw0 : 1 ≤ w) {q : Nat} (hqC : q ≤ C) (hCl : C ≤ l.length) (hqp : (q : Int) ≤ place) {v : Int × Int} {p : Nat} (hR : Reach l q p) :
  ∀ (i : Nat) (col : Int), AtE l p i → S ≤ p → (p = S → col = 0) →
  (∀ iq : Nat, AtE l q iq → Ev (fun k => colL0 l place w k ((stepsFrom (strOfNums (piece l S q)) (p - S)).foldl (colStep w) col) (iq : Int)) v) → Ev (fun k => colL0 l place w k col (i : Int)) v := by
 induction hR with
 | here =>
  intro i col hA hS h0 h
  have := h i hA
  rw [sf_nil (l := piece l S q) (q - S) (by rw [piece_len l S q (by omega)]; exact Nat.le_refl _)] at this
  exact this
 | @step p h1 h2 h3 ih =>
  intro i col hA hS h0 h
  have hr := h3.le
  have hlt : p < l.length := by omega
  have hl4 : l.length ≤ 4398046511104 := by omega
  obtain ⟨w1, w4, wl⟩ := widL_pos hb p hl4 hlt
  have hn : startsB l p = false ∨ col = 0 := by
   by_cases e : p = S
   ·exact .inr (h0 e)
   ·exact .inl (starts_plain hplain p (by omega) (by omega) (by omega))
  have hpb := hplain (p : Int) (by omega) (by omega)
  have hlen := piece_len l S q h2
  have hlq : p - S < (piece l S q).length := by omega
  have hl5 : (piece l S q).length ≤ 4398046511104 := by omega
  have hsub : p + widL l p - S = p - S + widL l p := by omega
  have hSn : S ≤ p + widL l p := by omega
  have hne : p + widL l p = S → colNext l w p col = 0 := fun e => by omega
  have hnb : ((p + widL l p : Nat) : Int) ≤ place := by omega
  have hws := wid_slice hb hl4 S q p hS h1 h2 hr
  have hos := (long_slice hb hl4 S q p hS h1 h2 hr).2
  refine col_step hb hl place w hA hlt hw0 hn hnb (ih (i + 1) _ (atE_next hb hl4 hA hlt) hSn hne (fun iq hq => ?_))
  have := h iq hq
  rw [sf_cons (hb.piece S q) hl5 (p - S) hlq, hws, hos, List.foldl_cons, colStep_next hb hl4 w p hlt hpb] at this
  rw [hsub]
  exact this
end

end Go.Proofs.YtijbkiajhicooaaDoor.PW

namespace Go.Proofs.YtijbkiajhicooaaDoor.PW
open Go.RowKit Go.Proofs.YtijbkiajhicooaaDoorW.PrintWords Go.Proofs.YtijbkiajhicooaaDoorW.PrintLast Go.Proofs.YtijbkiajhicooaaDoorW.PrintMore
attribute [local go_sem] max2_int min2_int max_two min_two max_three min_three max_four min_four   -- for this text's walks alone
set_option linter.unusedVariables false
set_option linter.unusedSimpArgs false

theorem strOfNums_whole (l : List Int) : (strOfNums l).extract 0 (strOfNums l).size = strOfNums l := by
 have := strOfNums_drop l 0
 rwa [List.drop_zero] at this
theorem step_at_ev {l : List Int} (hb : Bytes l) (hl : l.length ≤ 4398046511104) (q : Nat) (hq : q < l.length) : step_at.f l (q : Int) = some (ofL l q) := by
 obtain ⟨w1, w4, wl⟩ := widL_pos hb q hl hq
 obtain ⟨E, hE⟩ : ∃ E : Nat, E = min (q + 4) l.length := ⟨_, rfl⟩
 have hm : mn (wrap64 ((q : Int) + 4)) (l.length : Int) = (E : Int) := by
  rw [wrap64_small (by omega) (by omega)]
  unfold mn
  split <;> omega
 have hEl : E ≤ l.length := by omega
 have hqE : q < E := by omega
 have hwE : q + widL l q ≤ E := by omega
 have hs := (long_slice hb hl q E q (Nat.le_refl _) hqE hEl hwE).2
 rw [Nat.sub_self] at hs
 have hlen := piece_len l q E hEl
 have hf := (first_of (hb.piece q E) 0 (by omega) (by omega)).1
 rw [strOfNums_whole] at hf
 unfold step_at.f
 rw [hm, if_pos (by omega), if_pos (by omega), if_pos (by omega), Int.toNat_natCast, Int.toNat_natCast]
 unfold step_first.f
 rw [Option.bind_some]
 show some ((firstOf (strOfNums (piece l q E)))) = _
 rw [hf, hs]
/-- How far ahead of a place the step begins that goes over it. -/
def insideK (l : List Int) (p : Nat) : Nat :=
 if 1 ≤ p ∧ 1 < widL l (p - 1) then 1 else if 2 ≤ p ∧ 2 < widL l (p - 2) then 2 else if 3 ≤ p ∧ 3 < widL l (p - 3) then 3 else 0
def floorL (l : List Int) (p : Nat) : Nat := p - insideK l p
theorem inside_round {l : List Int} (hb : Bytes l) (hl : l.length ≤ 4398046511104) (p j : Nat) (hp : p ≤ l.length) (h1 : 1 ≤ j) (h3 : j ≤ 3) (k : Nat) :
  step_inside.l0 (k + 2) l (p : Int) (j : Int) = if j ≤ p then (if j < widL l (p - j) then some (j : Int) else step_inside.l0 k l (p : Int) ((j + 1 : Nat) : Int)) else some 0 := by
 rw [step_inside.l0, if_pos (by omega), step_inside.j1]
 by_cases h : j ≤ p
 ·have hw : wrap64 ((p : Int) - (j : Int)) = ((p - j : Nat) : Int) := by rw [wrap64_small (by omega) (by omega)]; omega
  have hw2 : wrap64 ((j : Int) + 1) = ((j + 1 : Nat) : Int) := by rw [wrap64_small (by omega) (by omega)]; omega
  have ho := ofL_wid hb hl (p - j) (by omega)
  have hg : ((ofL l (p - j)).2.1 > (j : Int)) ↔ j < widL l (p - j) := by rw [ho]; omega
  rw [if_pos (decide_eq_true (by omega)), if_pos h, hw, step_at_ev hb hl (p - j) (by omega), Option.bind_some, hw2]
  by_cases g : j < widL l (p - j)
  ·rw [if_pos g, if_pos (hg.2 g)]
  ·rw [if_neg g, if_neg (fun e => g (hg.1 e))]
 ·rw [if_neg (by rw [decide_eq_false (by omega)]; decide), if_neg h]
theorem inside_last (l : List Int) (p : Int) (k : Nat) : step_inside.l0 (k + 2) l p 4 = some 0 := by
 rw [step_inside.l0, if_neg (by decide), step_inside.j1, if_neg (by decide)]
theorem insideK_ev {l : List Int} (hb : Bytes l) (hl : l.length ≤ 4398046511104) (p : Nat) (hp : p ≤ l.length) (k : Nat) (hk : 8 ≤ k) : step_inside.f k l (p : Int) = some (insideK l p : Int) := by
 obtain ⟨m, rfl⟩ : ∃ m, k = m + 8 := ⟨k - 8, by omega⟩
 unfold step_inside.f insideK
 have r1 := inside_round hb hl p 1 hp (by omega) (by omega) (m + 6)
 have r2 := inside_round hb hl p 2 hp (by omega) (by omega) (m + 4)
 have r3 := inside_round hb hl p 3 hp (by omega) (by omega) (m + 2)
 have r4 := inside_last l (p : Int) m
 refine r1.trans ?_
 by_cases h1 : 1 ≤ p
 ·by_cases g1 : 1 < widL l (p - 1)
  ·rw [if_pos h1, if_pos g1, if_pos ⟨h1, g1⟩]
  ·rw [if_pos h1, if_neg g1, if_neg (fun e => g1 e.2)]
   refine r2.trans ?_
   by_cases h2 : 2 ≤ p
   ·by_cases g2 : 2 < widL l (p - 2)
    ·rw [if_pos h2, if_pos g2, if_pos ⟨h2, g2⟩]
    ·rw [if_pos h2, if_neg g2, if_neg (fun e => g2 e.2)]
     refine r3.trans ?_
     by_cases h3 : 3 ≤ p
     ·by_cases g3 : 3 < widL l (p - 3)
      ·rw [if_pos h3, if_pos g3, if_pos ⟨h3, g3⟩]
      ·rw [if_pos h3, if_neg g3, if_neg (fun e => g3 e.2)]
       exact r4
     ·rw [if_neg h3, if_neg (fun e => h3 e.1)]
      rfl
   ·rw [if_neg h2, if_neg (fun e => h2 e.1), if_neg (fun e => h2 (by omega))]
    rfl
 ·rw [if_neg h1, if_neg (fun e => h1 e.1), if_neg (fun e => h1 (by omega)), if_neg (fun e => h1 (by omega))]
  rfl
theorem insideK_le (l : List Int) (p : Nat) : insideK l p ≤ p := by
 unfold insideK
 split
 ·omega
 ·split
  ·omega
  ·split <;> omega
theorem floor_ev {l : List Int} (hb : Bytes l) (hl : l.length ≤ 4398046511104) (p : Nat) (hp : p ≤ l.length) (k : Nat) (hk : 8 ≤ k) : step_Floor.f k l (p : Int) = some ((floorL l p : Int), 0) := by
 have hle := insideK_le l p
 unfold step_Floor.f
 rw [if_neg (by omega), if_neg (by omega), insideK_ev hb hl p hp k hk, Option.bind_some, wrap64_small (by omega) (by omega)]
 unfold floorL
 rw [show ((p - insideK l p : Nat) : Int) = (p : Int) - (insideK l p : Int) by omega]
theorem long_le_wid (l : List Int) (q : Nat) : longAt l (q : Int) ≤ (widL l q : Int) := by
 unfold widL
 split
 ·omega
 ·omega
theorem long_of_wid {l : List Int} (q : Nat) (h : 1 < widL l q) : longAt l (q : Int) = (widL l q : Int) := by
 unfold widL at h ⊢
 by_cases g : longAt l (q : Int) = 0
 ·rw [if_pos g] at h; omega
 ·rw [if_neg g] at h ⊢; omega
theorem floor_facts {l : List Int} (hb : Bytes l) (hl : l.length ≤ 4398046511104) (p : Nat) (hp : p ≤ l.length) :
  Vis l (floorL l p) ∧ floorL l p ≤ p ∧ (floorL l p = p ∨ (floorL l p < p ∧ p < floorL l p + widL l (floorL l p))) := by
 have hv : ∀ k : Nat, 1 ≤ k → k ≤ p → k < widL l (p - k) → Vis l (p - k) := fun k h1 hk hw j j1 j3 jp => by
  refine Int.not_lt.1 fun hlt => ?_
  have hlong := long_of_wid (l := l) (p - k) (by omega)
  obtain ⟨_, _, _, hc, _⟩ := longAt_facts hb (p - k - j) hl (by omega)
  have := hc j j1 hlt
  rw [show p - k - j + j = p - k by omega] at this
  have hz := (longAt_facts hb (p - k) hl (by omega)).2.2.2.2 this
  omega
 unfold floorL insideK
 by_cases c1 : 1 ≤ p ∧ 1 < widL l (p - 1)
 ·rw [if_pos c1]
  exact ⟨hv 1 (by omega) c1.1 c1.2, by omega, .inr ⟨by omega, by omega⟩⟩
 rw [if_neg c1]
 by_cases c2 : 2 ≤ p ∧ 2 < widL l (p - 2)
 ·rw [if_pos c2]
  exact ⟨hv 2 (by omega) c2.1 c2.2, by omega, .inr ⟨by omega, by omega⟩⟩
 rw [if_neg c2]
 by_cases c3 : 3 ≤ p ∧ 3 < widL l (p - 3)
 ·rw [if_pos c3]
  exact ⟨hv 3 (by omega) c3.1 c3.2, by omega, .inr ⟨by omega, by omega⟩⟩
 rw [if_neg c3]
 refine ⟨fun j j1 j3 jp => ?_, by omega, .inl rfl⟩
 rw [Nat.sub_zero] at jp ⊢
 have := long_le_wid l (p - j)
 rcases (show j = 1 ∨ j = 2 ∨ j = 3 by omega) with rfl | rfl | rfl
 ·have : widL l (p - 1) ≤ 1 := Nat.le_of_not_lt fun h => c1 ⟨jp, h⟩
  omega
 ·have : widL l (p - 2) ≤ 2 := Nat.le_of_not_lt fun h => c2 ⟨jp, h⟩
  omega
 ·have : widL l (p - 3) ≤ 3 := Nat.le_of_not_lt fun h => c3 ⟨jp, h⟩
  omega
/-- An edge at or ahead of a place is at or ahead of the place's floor. -/
theorem edge_floor {l : List Int} (hb : Bytes l) (hl : l.length ≤ 4398046511104) (p : Nat) (hp : p ≤ l.length) (e : Nat) (he : Vis l e) (hle : e ≤ p) : e ≤ floorL l p := by
 obtain ⟨_, h1, h2⟩ := floor_facts hb hl p hp
 refine Nat.le_of_not_lt fun hlt => ?_
 rcases h2 with h2 | h2
 ·omega
 ·have := inside_step hb hl (p := floorL l p) (by omega) (e - floorL l p) (by omega) (by omega)
  rw [show floorL l p + (e - floorL l p) = e by omega, inside_vis he] at this
  cases this
/-- The line of a list that holds a place. -/
def selLine (fp : Int) : List S127 → S127
 | [] => ⟨0, 0, 0, 0⟩
 | [r] => r
 | r :: q :: t => if q.f0 > fp then r else selLine fp (q :: t)
theorem rd_line (ls : List S127) (i : Nat) (h : i < ls.length) : rd_T127 ls (i : Int) = ls[i] := by
 unfold rd_T127
 rw [List.getD_eq_getElem?_getD, Int.toNat_natCast, List.getElem?_eq_getElem h]
 rfl
theorem holds_l0 (fp : Int) (ls : List S127) (hl : ls.length ≤ 4398046511104) : ∀ (t : List S127) (i : Nat) (r : S127) (k : Nat), ls.drop i = r :: t → ls.length + 1 ≤ i + k + 1 →
  ∃ j : Nat, lines_holds.l0 (k + 1) ls fp (i : Int) (ls.length : Int) ((i + 1 : Nat) : Int) = some (j : Int) ∧ j < ls.length ∧ rd_T127 ls (j : Int) = selLine fp (r :: t) := by
 intro t
 induction t with
 | nil =>
  intro i r k hd hk
  have hi : i < ls.length := by
   refine Nat.lt_of_not_le fun h => ?_
   rw [List.drop_of_length_le h] at hd
   cases hd
  have hlen : ls.length = i + 1 := by
   have := congrArg List.length hd
   simp at this
   omega
  refine ⟨i, ?_, hi, ?_⟩
  ·rw [lines_holds.l0, if_neg (by omega)]
  ·rw [rd_line ls i hi]
   rw [List.drop_eq_getElem_cons hi] at hd
   exact (List.cons.inj hd).1
 | cons q t ih =>
  intro i r k hd hk
  have hi : i < ls.length := by
   refine Nat.lt_of_not_le fun h => ?_
   rw [List.drop_of_length_le h] at hd
   cases hd
  have hlen := congrArg List.length hd
  simp at hlen
  have hi1 : i + 1 < ls.length := by omega
  rw [List.drop_eq_getElem_cons hi] at hd
  obtain ⟨hr, hd1⟩ := List.cons.inj hd
  have hd2 := hd1
  rw [List.drop_eq_getElem_cons hi1] at hd2
  have hq := (List.cons.inj hd2).1
  have hrd := rd_line ls (i + 1) hi1
  rw [hq] at hrd
  have hw : wrap64 (((i + 1 : Nat) : Int) + 1) = ((i + 1 + 1 : Nat) : Int) := by rw [wrap64_small (by omega) (by omega)]; omega
  have c1 : ((i + 1 : Nat) : Int) < (ls.length : Int) := by omega
  have c0 : 0 ≤ ((i + 1 : Nat) : Int) := by omega
  obtain ⟨m, rfl⟩ : ∃ m, k = m + 1 := ⟨k - 1, by omega⟩
  by_cases g : q.f0 > fp
  ·refine ⟨i, ?_, hi, ?_⟩
   ·rw [lines_holds.l0, if_pos c1, if_pos c0, if_pos c1, hrd, if_pos g]
   ·rw [rd_line ls i hi, hr]
    simp only [selLine]
    rw [if_pos g]
  ·obtain ⟨j, h1, h2, h3⟩ := ih (i + 1) q m hd1 (by omega)
   refine ⟨j, ?_, h2, ?_⟩
   ·rw [lines_holds.l0, if_pos c1, if_pos c0, if_pos c1, hrd, if_neg g, hw]
    exact h1
   ·rw [h3]
    simp only [selLine]
    rw [if_neg g]

end Go.Proofs.YtijbkiajhicooaaDoor.PW

namespace Go.Proofs.YtijbkiajhicooaaDoor.PW
open Go.RowKit Go.Proofs.YtijbkiajhicooaaDoorW.PrintWords Go.Proofs.YtijbkiajhicooaaDoorW.PrintLast Go.Proofs.YtijbkiajhicooaaDoorW.PrintMore
attribute [local go_sem] max2_int min2_int max_two min_two max_three min_three max_four min_four   -- for this text's walks alone
set_option linter.unusedVariables false
set_option linter.unusedSimpArgs false

/-- A line's content ends at C with a line end, and the next line begins at n. -/
def LEnd (l : List Int) (C n : Nat) : Prop :=
 C < l.length ∧ n ≤ l.length ∧ (rd l (C : Int) = 10 ∨ rd l (C : Int) = 13) ∧ startsB l n = true ∧ (n = C + 1 ∨ (n = C + 2 ∧ C + 1 < l.length ∧ rd l (C : Int) = 13 ∧ rd l ((C + 1 : Nat) : Int) = 10))
theorem lend_of {l : List Int} {r : S127} (h : EndsAt l r) (h0 : 0 ≤ r.f1) : ∃ n : Nat, r.f3 = (n : Int) ∧ LEnd l r.f1.toNat n := by
 obtain ⟨C, hC⟩ : ∃ C : Nat, r.f1 = (C : Int) := ⟨r.f1.toNat, by omega⟩
 unfold EndsAt at h
 rw [hC] at h ⊢
 rw [Int.toNat_natCast]
 rcases h with ⟨h1, h2, h3, h4⟩ | ⟨h1, h2, h3, h4, h5⟩ | ⟨h1, h2, h3, h4, h5⟩
 ·refine ⟨C + 1, by omega, by omega, by omega, .inl h2, ?_, .inl rfl⟩
  unfold startsB
  rw [if_neg (by omega), show ((C + 1 : Nat) : Int) - 1 = (C : Int) by omega, if_pos h2]
 ·refine ⟨C + 2, by omega, by omega, by omega, .inr h2, ?_, .inr ⟨rfl, by omega, h2, h3⟩⟩
  unfold startsB
  rw [if_neg (by omega), show ((C + 2 : Nat) : Int) - 1 = (C : Int) + 1 by omega, if_pos h3]
 ·refine ⟨C + 1, by omega, by omega, by omega, .inr h2, ?_, .inl rfl⟩
  unfold startsB
  rw [if_neg (by omega), show ((C + 1 : Nat) : Int) - 1 = (C : Int) by omega, if_neg (by rw [h2]; decide), if_pos h2]
  by_cases e : C + 1 = l.length
  ·rw [if_pos e]
  ·rw [if_neg e]
   have : rd l ((C + 1 : Nat) : Int) ≠ 10 := fun g => h3 ⟨by omega, g⟩
   simpa using this
theorem end_low {l : List Int} {C : Nat} (h : rd l (C : Int) = 10 ∨ rd l (C : Int) = 13) : rd l (C : Int) < 128 := by
 rcases h with h | h <;> rw [h] <;> decide
theorem colNext_end {l : List Int} {C : Nat} (w col : Int) (h : rd l (C : Int) = 10 ∨ rd l (C : Int) = 13) : colNext l w C col = col := by
 unfold colNext
 rw [if_neg (by rcases h with h | h <;> rw [h] <;> decide), if_pos h]
theorem starts_mid {l : List Int} {C : Nat} (h1 : C + 1 < l.length) (h2 : rd l (C : Int) = 13) (h3 : rd l ((C + 1 : Nat) : Int) = 10) : startsB l (C + 1) = false := by
 unfold startsB
 rw [if_neg (by omega), show ((C + 1 : Nat) : Int) - 1 = (C : Int) by omega, if_neg (by rw [h2]; decide), if_pos h2, if_neg (by omega), h3]
 rfl
section
variable {l : List Int} (hb : Bytes l) (hl : l.length ≤ 4398046511103) (pl : Nat) (hpl : pl ≤ l.length) (w : Int) (hw0 : 1 ≤ w)
include hb hl hw0 in
theorem col_pass {C n : Nat} (hE : LEnd l C n) (hn : n ≤ pl) {col : Int} {v : Int × Int} (h : ∀ i : Nat, AtE l n i → Ev (fun k => colL0 l (pl : Int) w k col (i : Int)) v) {i : Nat} (hA : AtE l C i) (hs : startsB l C = false ∨ col = 0) :
  Ev (fun k => colL0 l (pl : Int) w k col (i : Int)) v := by
 obtain ⟨e1, e2, e3, e4, e5⟩ := hE
 have hl4 : l.length ≤ 4398046511104 := by omega
 have hA1 := atE_next hb hl4 hA e1
 have hnb : ((C + 1 : Nat) : Int) ≤ (pl : Int) := by omega
 rw [(low_long hb hl4 C e1 (end_low e3)).2] at hA1
 refine col_step hb hl (pl : Int) w hA e1 hw0 hs (by rw [(low_long hb hl4 C e1 (end_low e3)).2]; exact hnb) ?_
 rw [colNext_end w col e3]
 rcases e5 with e5 | ⟨e5, e6, e7, e8⟩
 ·subst e5
  exact h _ hA1
 ·subst e5
  have hA2 := atE_next hb hl4 hA1 e6
  have hnb2 : ((C + 1 + 1 : Nat) : Int) ≤ (pl : Int) := by omega
  rw [(low_long hb hl4 (C + 1) e6 (end_low (.inl e8))).2] at hA2
  refine col_step hb hl (pl : Int) w hA1 e6 hw0 (.inl (starts_mid e6 e7 e8)) (by rw [(low_long hb hl4 (C + 1) e6 (end_low (.inl e8))).2]; exact hnb2) ?_
  rw [colNext_end w col (.inl e8)]
  exact h _ hA2
include hb hl hw0 hpl in
theorem col_stop {C n : Nat} (hE : LEnd l C n) (hn : floorL l pl < n) {col : Int} {i : Nat} (hA : AtE l C i) (hs : startsB l C = false ∨ col = 0) :
  Ev (fun k => colL0 l (pl : Int) w k col (i : Int)) (col, 0) := by
 obtain ⟨e1, e2, e3, e4, e5⟩ := hE
 have hl4 : l.length ≤ 4398046511104 := by omega
 have hw1 := (low_long hb hl4 C e1 (end_low e3)).2
 have hA1 := atE_next hb hl4 hA e1
 have hv0 := vis_low hb hl4 C (by omega) (.inr (end_low e3))
 have hv1 := vis_next hb hl4 e1 hv0
 rw [hw1] at hA1 hv1
 by_cases g : C + 1 ≤ pl
 ·have hle := edge_floor hb hl4 pl hpl (C + 1) hv1 g
  rcases e5 with e5 | ⟨e5, e6, e7, e8⟩
  ·exact absurd hle (by omega)
  ·have hw2 := (low_long hb hl4 (C + 1) e6 (end_low (.inl e8))).2
   have hv2 := vis_next hb hl4 e6 hv1
   rw [hw2] at hv2
   have hbr : (pl : Int) < ((C + 1 + 1 : Nat) : Int) := by
    refine Int.not_le.1 fun hge => ?_
    have := edge_floor hb hl4 pl hpl (C + 1 + 1) hv2 (by omega)
    omega
   refine col_step hb hl (pl : Int) w hA e1 hw0 hs (by rw [hw1]; omega) ?_
   rw [colNext_end w col e3]
   exact col_l0_j3 hb hl (pl : Int) w hA1 e6 (.inl (starts_mid e6 e7 e8)) (col_j3_break hb hl (pl : Int) w col hA1 e6 (by rw [hw2]; exact hbr))
 ·exact col_l0_j3 hb hl (pl : Int) w hA e1 hs (col_j3_break hb hl (pl : Int) w col hA e1 (by rw [hw1]; omega))
/-- What the column is, by the line that begins at S and whose content ends at C. -/
def colIn (l : List Int) (w : Int) (fp S C : Nat) : Int := colOf w (piece l S (min fp C))
include hb hl hw0 hpl in
theorem col_sel {S C : Nat} (hSC : S ≤ C) (hCl : C ≤ l.length) (hplain : PlainTo l (S : Int) (C : Int)) (hSf : S ≤ floorL l pl) (hend : C = l.length ∨ ∃ n, LEnd l C n ∧ floorL l pl < n) {i : Nat} (hA : AtE l S i) :
  Ev (fun k => colL0 l (pl : Int) w k 0 (i : Int)) (colIn l w (floorL l pl) S C, 0) := by
 have hl4 : l.length ≤ 4398046511104 := by omega
 obtain ⟨hvf, hfl, hfw⟩ := floor_facts hb hl4 pl hpl
 have hvC : Vis l C := vis_low hb hl4 C hCl (by
  rcases hend with h | ⟨n, hE, _⟩
  ·exact .inl h
  ·exact .inr (end_low hE.2.2.1))
 unfold colIn
 generalize hf : floorL l pl = fp at *
 have hvq : Vis l (min fp C) := by
  by_cases g : fp ≤ C
  ·rw [Nat.min_eq_left g]; exact hvf
  ·rw [Nat.min_eq_right (by omega)]; exact hvC
 have hq1 : min fp C ≤ C := Nat.min_le_right _ _
 have hq2 : S ≤ min fp C := by omega
 have hq3 : ((min fp C : Nat) : Int) ≤ (pl : Int) := by omega
 refine col_run hb hl (pl : Int) w hplain hw0 hq1 hCl hq3 (reach_vis hb hl4 (min fp C) (by omega) hvq _ S rfl hq2) i 0 hA (Nat.le_refl _) (fun _ => rfl) (fun iq hAq => ?_)
 rw [Nat.sub_self]
 show Ev _ ((stepsFrom (strOfNums (piece l S (min fp C))) 0).foldl (colStep w) 0, 0)
 have hzero : min fp C = S → (stepsFrom (strOfNums (piece l S (min fp C))) 0).foldl (colStep w) 0 = 0 := fun e => by
  rw [sf_nil (l := piece l S (min fp C)) 0 (by rw [piece_len l S _ (by omega)]; omega)]
  rfl
 have hstart : startsB l (min fp C) = false ∨ (stepsFrom (strOfNums (piece l S (min fp C))) 0).foldl (colStep w) 0 = 0 := by
  by_cases e : min fp C = S
  ·exact .inr (hzero e)
  ·exact .inl (starts_plain hplain _ (by omega) (by omega) (by omega))
 generalize (stepsFrom (strOfNums (piece l S (min fp C))) 0).foldl (colStep w) 0 = col at *
 by_cases g : fp < C
 ·have hm : min fp C = fp := Nat.min_eq_left (by omega)
  rw [hm] at hAq hstart
  have hfl2 : fp < l.length := by omega
  have hwp := (widL_pos hb fp hl4 hfl2).1
  have hbr : (pl : Int) < ((fp + widL l fp : Nat) : Int) := by omega
  exact col_l0_j3 hb hl (pl : Int) w hAq hfl2 hstart (col_j3_break hb hl (pl : Int) w col hAq hfl2 hbr)
 ·have hm : min fp C = C := Nat.min_eq_right (by omega)
  rw [hm] at hAq hstart
  rcases hend with h | ⟨n, hE, hn⟩
  ·subst h
   have := col_end hl (pl : Int) w col hAq (by omega)
   rcases hstart with hs | hs
   ·rw [hs, if_neg (by decide)] at this
    exact this
   ·rw [hs] at this ⊢
    simpa using this
  ·exact col_stop hb hl pl hpl w hw0 hE (by rw [hf]; exact hn) hAq hstart
include hb hl hw0 hpl in
theorem col_by {S C n : Nat} (hSC : S ≤ C) (hplain : PlainTo l (S : Int) (C : Int)) (hE : LEnd l C n) (hn : n ≤ floorL l pl) {v : Int × Int} (h : ∀ (i : Nat) (col : Int), AtE l n i → Ev (fun k => colL0 l (pl : Int) w k col (i : Int)) v) {i : Nat} (hA : AtE l S i) :
  Ev (fun k => colL0 l (pl : Int) w k 0 (i : Int)) v := by
 have hl4 : l.length ≤ 4398046511104 := by omega
 have hCl : C ≤ l.length := Nat.le_of_lt hE.1
 have hCn : C < n := by rcases hE.2.2.2.2 with e | ⟨e, _⟩ <;> omega
 have hfl := (floor_facts hb hl4 pl hpl).2.1
 have hvC : Vis l C := vis_low hb hl4 C hCl (.inr (end_low hE.2.2.1))
 refine col_run hb hl (pl : Int) w hplain hw0 (Nat.le_refl _) hCl (by omega) (reach_vis hb hl4 C hCl hvC _ S rfl hSC) i 0 hA (Nat.le_refl _) (fun _ => rfl) (fun iq hAq => ?_)
 rw [Nat.sub_self]
 have hstart : startsB l C = false ∨ (stepsFrom (strOfNums (piece l S C)) 0).foldl (colStep w) 0 = 0 := by
  by_cases e : C = S
  ·right
   rw [sf_nil (l := piece l S C) 0 (by rw [piece_len l S _ hCl]; omega)]
   rfl
  ·exact .inl (starts_plain hplain _ (by omega) (by omega) (by omega))
 exact col_pass hb hl pl w hw0 hE (by omega) (fun i hi => h i _ hi) hAq hstart
theorem Ev.shift2 {β : Type} {g h : Nat → Option β} {v : β} (hh : Ev h v) (e : ∀ k, g (k + 2) = h (k + 2)) : Ev g v := by
 obtain ⟨K, hK⟩ := hh
 refine ⟨K + 2, fun k hk => ?_⟩
 obtain ⟨m, rfl⟩ : ∃ m, k = m + 2 := ⟨k - 2, by omega⟩
 rw [e]
 exact hK _ (by omega)
include hb hl hw0 hpl in
theorem col_lines : ∀ (rs : List S127) (S i : Nat) (col : Int), LChain l (S : Int) rs → startsB l S = true → AtE l S i → S ≤ floorL l pl →
  Ev (fun k => colL0 l (pl : Int) w k col (i : Int)) (colIn l w (floorL l pl) (selLine (floorL l pl : Int) rs).f0.toNat (selLine (floorL l pl : Int) rs).f1.toNat, 0) := by
 have hl4 : l.length ≤ 4398046511104 := by omega
 have hfl := (floor_facts hb hl4 pl hpl).2.1
 intro rs
 induction rs with
 | nil => intro S i col h; exact absurd h (by simp [LChain])
 | cons r rs ih =>
  intro S i col h hst hA hSf
  obtain ⟨h0, h1, h2, h3⟩ := h
  have hSp : (S : Int) ≤ (pl : Int) := by omega
  refine Ev.shift2 (h := fun k => colL0 l (pl : Int) w k 0 (i : Int)) ?_ (fun k => col_reset hb hl (pl : Int) w hA hst hSp (by omega) col k)
  obtain ⟨C, hC⟩ : ∃ C : Nat, r.f1 = (C : Int) := ⟨r.f1.toNat, by omega⟩
  have hSC : S ≤ C := by omega
  rw [hC] at h2
  have hsel : rs = [] ∨ (∃ q t, rs = q :: t ∧ q.f0 > (floorL l pl : Int)) → selLine (floorL l pl : Int) (r :: rs) = r := by
   rintro (rfl | ⟨q, t, rfl, g⟩)
   ·rfl
   ·simp only [selLine]; rw [if_pos g]
  rcases h3 with ⟨h3, h4, _⟩ | ⟨h3, h4⟩
  ·rw [hsel (.inl h3), h0, hC, Int.toNat_natCast, Int.toNat_natCast]
   have hCl : C = l.length := by omega
   exact col_sel hb hl pl hpl w hw0 hSC (Nat.le_of_eq hCl) h2 hSf (.inl hCl) hA
  ·obtain ⟨n, hn, hE⟩ := lend_of h3 (by omega)
   rw [hC, Int.toNat_natCast] at hE
   rw [hn] at h4
   cases rs with
   | nil => exact absurd h4 (by simp [LChain])
   | cons q t =>
    have hq : q.f0 = (n : Int) := h4.1
    by_cases g : floorL l pl < n
    ·rw [hsel (.inr ⟨q, t, rfl, by omega⟩), h0, hC, Int.toNat_natCast, Int.toNat_natCast]
     exact col_sel hb hl pl hpl w hw0 hSC (Nat.le_of_lt hE.1) h2 hSf (.inr ⟨n, hE, g⟩) hA
    ·have hs : selLine (floorL l pl : Int) (r :: q :: t) = selLine (floorL l pl : Int) (q :: t) := by
      simp only [selLine]; rw [if_neg (by omega)]
     rw [hs]
     exact col_by hb hl pl hpl w hw0 hSC h2 hE (by omega) (fun i col hi => ih n i col h4 hE.2.2.2.1 hi (by omega)) hA
end

end Go.Proofs.YtijbkiajhicooaaDoor.PW

namespace Go.Proofs.YtijbkiajhicooaaDoor.PW
open Go.RowKit Go.Proofs.YtijbkiajhicooaaDoorW.PrintWords Go.Proofs.YtijbkiajhicooaaDoorW.PrintLast Go.Proofs.YtijbkiajhicooaaDoorW.PrintMore
attribute [local go_sem] max2_int min2_int max_two min_two max_three min_three max_four min_four   -- for this text's walks alone
set_option linter.unusedVariables false
set_option linter.unusedSimpArgs false

theorem own_some (l : List Int) (hl : l.length ≤ 4398046511103) : galleylaw22_own.f l = some l := by
 unfold galleylaw22_own.f
 rw [Option.bind_some, if_pos (by simp; omega), List.nil_append]
end Go.Proofs.YtijbkiajhicooaaDoor.PW
namespace Go.Proofs.YtijbkiajhicooaaDoor.Pure
open Go.Proofs.YtijbkiajhicooaaDoor.PW Go.RowKit
end Go.Proofs.YtijbkiajhicooaaDoor.Pure
namespace Go.Proofs.YtijbkiajhicooaaDoor.PW

end Go.Proofs.YtijbkiajhicooaaDoor.PW

namespace Go.Proofs.YtijbkiajhicooaaDoor.PW
open Go.RowKit Go.Proofs.YtijbkiajhicooaaDoorW.PrintWords Go.Proofs.YtijbkiajhicooaaDoorW.PrintLast Go.Proofs.YtijbkiajhicooaaDoorW.PrintMore
attribute [local go_sem] max2_int min2_int max_two min_two max_three min_three max_four min_four   -- for this text's walks alone
set_option linter.unusedVariables false
set_option linter.unusedSimpArgs false

theorem outside_ev (l : List Int) (a : Int) : words_outside.f l a = some (decide (a < 0 ∨ a > (l.length : Int))) := by
 unfold words_outside.f
 by_cases h : a < 0
 ·rw [if_pos h, decide_eq_true (.inl h)]
 ·rw [if_neg h]
  by_cases g : a > (l.length : Int)
  ·rw [decide_eq_true g, decide_eq_true (.inr g)]
  ·rw [decide_eq_false g, decide_eq_false (by omega)]
end Go.Proofs.YtijbkiajhicooaaDoor.PW
namespace Go.Proofs.YtijbkiajhicooaaDoor.Pure
open Go.Proofs.YtijbkiajhicooaaDoor.PW Go.RowKit
end Go.Proofs.YtijbkiajhicooaaDoor.Pure
namespace Go.Proofs.YtijbkiajhicooaaDoor.PW

end Go.Proofs.YtijbkiajhicooaaDoor.PW

namespace Go.Proofs.YtijbkiajhicooaaDoor.PW
open Go.RowKit Go.Proofs.YtijbkiajhicooaaDoorW.PrintWords Go.Proofs.YtijbkiajhicooaaDoorW.PrintLast Go.Proofs.YtijbkiajhicooaaDoorW.PrintMore
attribute [local go_sem] max2_int min2_int max_two min_two max_three min_three max_four min_four   -- for this text's walks alone
set_option linter.unusedVariables false
set_option linter.unusedSimpArgs false

theorem sel_facts {l : List Int} (fp : Int) : ∀ (rs : List S127) (a : Int), LChain l a rs → 0 ≤ a → a ≤ fp → fp ≤ (l.length : Int) →
  0 ≤ (selLine fp rs).f0 ∧ (selLine fp rs).f0 ≤ fp ∧ (selLine fp rs).f0 ≤ (selLine fp rs).f1 ∧ (selLine fp rs).f1 ≤ (l.length : Int) := by
 intro rs
 induction rs with
 | nil => intro a h; exact absurd h (by simp [LChain])
 | cons r rs ih =>
  intro a h ha hf hl
  obtain ⟨h0, h1, h2, h3⟩ := h
  have hr : 0 ≤ r.f0 ∧ r.f0 ≤ fp ∧ r.f0 ≤ r.f1 ∧ r.f1 ≤ (l.length : Int) := by
   refine ⟨by omega, by omega, by omega, ?_⟩
   rcases h3 with ⟨_, h4, _⟩ | ⟨h4, _⟩
   ·omega
   ·rcases h4 with h | h | h <;> omega
  cases rs with
  | nil => exact hr
  | cons q t =>
   simp only [selLine]
   by_cases g : q.f0 > fp
   ·rw [if_pos g]; exact hr
   ·rw [if_neg g]
    rcases h3 with ⟨h4, _⟩ | ⟨h5, h4⟩
    ·cases h4
    ·have hq : q.f0 = r.f3 := h4.1
     have hr3 : 0 ≤ r.f3 := by
      rcases h5 with h | h | h <;> omega
     exact ih r.f3 h4 hr3 (by omega) hl
theorem size_some (l : List Int) (hl : l.length ≤ 4398046511104) (a : Int) (ha : a = 2 ∨ a = 3) : ∃ v, lines_size.f l a = some v := by
 have hr : rule_ruler.f a = some true := by rcases ha with rfl | rfl <;> rfl
 have hs : ∃ v, rule_size.f l a = some v := by
  unfold rule_size.f
  rw [if_pos hl]
  rcases ha with rfl | rfl
  ·exact ⟨_, rfl⟩
  ·exact ⟨_, rfl⟩
 obtain ⟨v, hv⟩ := hs
 refine ⟨v, ?_⟩
 unfold lines_size.f rule_Size.f
 rw [hr, Option.bind_some, if_pos rfl, hv]
 rfl
theorem lineAt_length (l : List Int) : ∀ (k : Nat) (s i : Int) (out : List S127), (lineAt l k s i out).length ≤ out.length + k := by
 intro k
 induction k with
 | zero => intro s i out; simp [lineAt]
 | succ k ih =>
  intro s i out
  simp only [lineAt]
  repeat' split
  ·refine Nat.le_trans (ih _ _ _) (by simp; omega)
  ·refine Nat.le_trans (ih _ _ _) (by simp; omega)
  ·refine Nat.le_trans (ih _ _ _) (by simp; omega)
  ·refine Nat.le_trans (ih _ _ _) (by omega)
  ·simp
theorem allLines_length (l : List Int) : (allLines l).length ≤ l.length + 1 := by
 have := lineAt_length l (l.length + 1) 0 0 []
 simpa [allLines] using this
theorem holds_all (l : List Int) (hl : l.length ≤ 4398046511103) (fp : Int) (h0 : 0 ≤ fp) (k : Nat) (hk : l.length + 3 ≤ k) :
  ∃ j : Nat, lines_holds.f k (allLines l) fp = some (j : Int) ∧ j < (allLines l).length ∧ rd_T127 (allLines l) (j : Int) = selLine fp (allLines l) := by
 have hlen := allLines_length l
 obtain ⟨m, rfl⟩ : ∃ m, k = m + 2 := ⟨k - 2, by omega⟩
 cases hA : allLines l with
 | nil => have := allLines_chain l; rw [hA] at this; exact absurd this (by simp [LChain])
 | cons r t =>
  have hch := allLines_chain l
  rw [hA] at hch hlen
  have hr0 : r.f0 = 0 := hch.1
  obtain ⟨j, h1, h2, h3⟩ := holds_l0 fp (r :: t) (by omega) t 0 r m rfl (by omega)
  refine ⟨j, ?_, h2, h3⟩
  have hrd : rd_T127 (r :: t) 0 = r := rfl
  have hl0 : (0 : Int) < ((r :: t).length : Int) := by simp only [List.length_cons]; omega
  have hng : ¬ r.f0 > fp := by omega
  have hw1 : wrap64 (0 + 1) = ((0 + 1 : Nat) : Int) := by unfold wrap64; omega
  unfold lines_holds.f
  rw [lines_holds.l0, if_pos hl0, if_pos (Int.le_refl _), if_pos hl0, hrd, if_neg hng, hw1]
  exact h1
theorem where_ev {l : List Int} (hb : Bytes l) (hl : l.length ≤ 4398046511103) (p : Nat) (hp : p ≤ l.length) (k : Nat) (hk : l.length + 10 ≤ k) :
  ∃ (j : Nat) (x1 x2 x4 x5 x6 : Int), lines_Where.f k l (p : Int) = some ((floorL l p : Int), x1, x2, (j : Int), x4, x5, x6, 0) ∧ j < (allLines l).length ∧ rd_T127 (allLines l) (j : Int) = selLine (floorL l p : Int) (allLines l) := by
 have hl4 : l.length ≤ 4398046511104 := by omega
 have hfl := (floor_facts hb hl4 p hp).2.1
 obtain ⟨j, h1, h2, h3⟩ := holds_all l hl (floorL l p : Int) (by omega) k (by omega)
 obtain ⟨s0, s1, s2, s3⟩ := sel_facts (l := l) (floorL l p : Int) (allLines l) 0 (allLines_chain l) (Int.le_refl _) (by omega) (by omega)
 have hall : lines_all.f l = some (allLines l) := by unfold lines_all.f; rw [if_pos hl]
 obtain ⟨v1, e1⟩ := size_some (l.take (floorL l p)) (by simp; omega) 2 (.inl rfl)
 obtain ⟨v2, e2⟩ := size_some (l.take (floorL l p)) (by simp; omega) 3 (.inr rfl)
 obtain ⟨v3, e3⟩ := size_some ((l.take (floorL l p)).drop (selLine (floorL l p : Int) (allLines l)).f0.toNat) (by simp; omega) 2 (.inl rfl)
 obtain ⟨v4, e4⟩ := size_some ((l.take (floorL l p)).drop (selLine (floorL l p : Int) (allLines l)).f0.toNat) (by simp; omega) 3 (.inr rfl)
 have c1 : (0 : Int) ≤ (floorL l p : Int) := by omega
 have c2 : (floorL l p : Int) ≤ (l.length : Int) := by omega
 have c3 : (0 : Int) ≤ (j : Int) := by omega
 have c4 : (j : Int) < ((allLines l).length : Int) := by omega
 refine ⟨j, v1, v2, (((l.take (floorL l p)).drop (selLine (floorL l p : Int) (allLines l)).f0.toNat).length : Int), v3, v4, ?_, h2, h3⟩
 unfold lines_Where.f
 rw [floor_ev hb hl4 p hp k (by omega), Option.bind_some]
 dsimp only
 rw [if_pos rfl, hall, Option.bind_some, h1, Option.bind_some, if_pos c1, if_pos c2, if_pos c3, if_pos c4, h3, if_pos s0, if_pos s1, Int.toNat_natCast, e1, Option.bind_some, e2, Option.bind_some, e3, Option.bind_some, e4, Option.bind_some]
theorem line_ev {l : List Int} (hl : l.length ≤ 4398046511103) (j : Nat) (hj : j < (allLines l).length) :
  lines_Line.f l (j : Int) = some ((rd_T127 (allLines l) (j : Int)).f0, (rd_T127 (allLines l) (j : Int)).f1, (rd_T127 (allLines l) (j : Int)).f3, 0) := by
 have hall : lines_all.f l = some (allLines l) := by unfold lines_all.f; rw [if_pos hl]
 unfold lines_Line.f
 rw [hall, Option.bind_some, if_neg (by omega), if_neg (by omega), if_pos (by omega), if_pos (by omega)]
/-- The answer of Column. -/
def columnAt (l : List Int) (a w : Int) : Int × Int :=
 if a < 0 ∨ a > (l.length : Int) ∨ w < 1 ∨ w > 65536 then (0, 2)
 else (colIn l w (floorL l a.toNat) (selLine (floorL l a.toNat : Int) (allLines l)).f0.toNat (selLine (floorL l a.toNat : Int) (allLines l)).f1.toNat, 0)
theorem words_column {l : List Int} (hb : Bytes l) (hl : l.length ≤ 4398046511103) (a w : Int) : words_Column.f l a w = some (columnAt l a w) := by
 unfold words_Column.f columnAt
 rw [outside_ev, Option.bind_some]
 by_cases h : a < 0 ∨ a > (l.length : Int)
 ·rw [if_pos (decide_eq_true h), if_pos (h.elim .inl fun e => .inr (.inl e))]
 rw [if_neg (by rw [decide_eq_false h]; decide)]
 by_cases h2 : w < 1
 ·rw [if_pos h2, if_pos (.inr (.inr (.inl h2)))]
 rw [if_neg h2]
 by_cases h3 : w > 65536
 ·rw [if_pos h3, if_pos (.inr (.inr (.inr h3)))]
 rw [if_neg h3, if_neg (by omega)]
 obtain ⟨p, rfl⟩ : ∃ p : Nat, a = (p : Int) := ⟨a.toNat, by omega⟩
 have hp : p ≤ l.length := by omega
 have hl4 : l.length ≤ 4398046511104 := by omega
 have hfl := (floor_facts hb hl4 p hp).2.1
 obtain ⟨j, x1, x2, x4, x5, x6, hW, hj, hrd⟩ := where_ev hb hl p hp (l.length + 10) (Nat.le_refl _)
 obtain ⟨s0, s1, s2, s3⟩ := sel_facts (l := l) (floorL l p : Int) (allLines l) 0 (allLines_chain l) (Int.le_refl _) (by omega) (by omega)
 rw [hW, Option.bind_some]
 dsimp only
 rw [if_pos rfl, line_ev hl j hj, Option.bind_some, hrd]
 dsimp only
 rw [Int.toNat_natCast]
 generalize selLine (floorL l p : Int) (allLines l) = r at s0 s1 s2 s3 ⊢
 obtain ⟨S, hS⟩ : ∃ S : Nat, r.f0 = (S : Int) := ⟨r.f0.toNat, by omega⟩
 obtain ⟨C, hC⟩ : ∃ C : Nat, r.f1 = (C : Int) := ⟨r.f1.toNat, by omega⟩
 rw [hS, hC] at s2 ⊢
 rw [hS] at s0 s1
 rw [hC] at s3
 have hm : mn (floorL l p : Int) (C : Int) = ((min (floorL l p) C : Nat) : Int) := by unfold mn; split <;> omega
 rw [hm, if_pos (by omega), if_pos (by omega), if_pos (by omega), if_pos hl4, Int.toNat_natCast, Int.toNat_natCast, Int.toNat_natCast]
 rfl
theorem ref_column_ev {l : List Int} (hb : Bytes l) (hl : l.length ≤ 4398046511103) (a w : Int) : Ev (fun k => galleyref22_Column.f k l a w) (columnAt l a w) := by
 have hl4 : l.length ≤ 4398046511104 := by omega
 have hj : ∀ b : Bool, b = decide (a < 0 ∨ a > (l.length : Int) ∨ w < 1 ∨ w > 65536) → Ev (fun k => galleyref22_Column.j0 k l a w b) (columnAt l a w) := by
  intro b hb'
  unfold columnAt
  by_cases h : a < 0 ∨ a > (l.length : Int) ∨ w < 1 ∨ w > 65536
  ·rw [if_pos h]
   refine Ev.succ (Ev.pure ((0 : Int), (2 : Int))) (fun k => ?_)
   rw [galleyref22_Column.j0, if_pos (by rw [hb', decide_eq_true h])]
  ·rw [if_neg h]
   obtain ⟨p, rfl⟩ : ∃ p : Nat, a = (p : Int) := ⟨a.toNat, by omega⟩
   have hp : p ≤ l.length := by omega
   have hc := col_lines hb hl p hp w (by omega) (allLines l) 0 0 0 (allLines_chain l) rfl (atE_zero l) (Nat.zero_le _)
   rw [Int.toNat_natCast]
   refine Ev.succ (Ev.bind (h := fun k t => galleyref22_Column.l0 k l (p : Int) w 0 0 t.1 t.2) (of22_ev hb hl) hc) (fun k => ?_)
   rw [galleyref22_Column.j0, if_neg (by rw [hb', decide_eq_false h]; decide)]
 unfold galleyref22_Column.f
 by_cases h1 : a < 0
 ·simp only [if_pos h1]
  exact hj _ (decide_eq_true (.inl h1)).symm
 simp only [if_neg h1]
 by_cases h2 : a > (l.length : Int)
 ·simp only [if_pos h2]
  exact hj _ (decide_eq_true (.inr (.inl h2))).symm
 simp only [if_neg h2]
 by_cases h3 : w < 1
 ·simp only [if_pos h3]
  exact hj _ (decide_eq_true (.inr (.inr (.inl h3)))).symm
 simp only [if_neg h3]
 exact hj _ (by by_cases g : w > 65536 <;> simp [g, h1, h2, h3])
end Go.Proofs.YtijbkiajhicooaaDoor.PW
namespace Go.Proofs.YtijbkiajhicooaaDoor.Pure
open Go.Proofs.YtijbkiajhicooaaDoor.PW Go.RowKit
theorem WordsColumns (l0 : List Int) (a1 a2 : Int) (hl : l0.length ≤ 1048576) (hw : ∀ x ∈ l0, (Lit.int .u8 x).wf = true) (_ha1 : (Lit.int .i64 a1).wf = true) (_ha2 : (Lit.int .i64 a2).wf = true) : ∃ k, galleylaw22_WordsColumns.f k l0 a1 a2 = some true := by
 have hb := bytes_of_wf hw
 refine Ev.some (Ev.bind (Ev.of_eq fun _ => rfl) ?_)
 refine Ev.bind (Ev.of_eq fun _ => own_some l0 (by omega)) ?_
 refine Ev.bind (Ev.of_eq fun _ => words_column hb (by omega) a1 a2) ?_
 refine Ev.bind (ref_column_ev hb (by omega) a1 a2) ?_
 refine Ev.of_eq fun _ => ?_
 simp
end Go.Proofs.YtijbkiajhicooaaDoor.Pure
namespace Go.Proofs.YtijbkiajhicooaaDoor.PW

end Go.Proofs.YtijbkiajhicooaaDoor.PW

