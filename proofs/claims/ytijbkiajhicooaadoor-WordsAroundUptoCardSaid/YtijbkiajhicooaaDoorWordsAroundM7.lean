-- Written by merge.py, a program of this session's: PureWordsAround
import Derived.Test.YtijbkiajhicooaaDoorWordsAroundM1
import Derived.Test.YtijbkiajhicooaaDoorWordsAroundM6
import Derived.Test.YtijbkiajhicooaaDoorWordsAroundM4
namespace Go.Proofs.YtijbkiajhicooaaDoor.PW
open Go.RowKit Go.Proofs.YtijbkiajhicooaaDoorW.PrintWords Go.Proofs.YtijbkiajhicooaaDoorW.PrintLast Go.Proofs.YtijbkiajhicooaaDoorW.PrintMore
attribute [local go_sem] max2_int min2_int max_two min_two max_three min_three max_four min_four   -- for this text's walks alone
set_option linter.unusedVariables false
set_option linter.unusedSimpArgs false

theorem rd_run (rs : List S83) (i : Nat) (h : i < rs.length) : rd_T83 rs (i : Int) = rs[i] := by
 unfold rd_T83
 rw [List.getD_eq_getElem?_getD, Int.toNat_natCast, List.getElem?_eq_getElem h]
 rfl
/-- The first run that ends behind the place, or the last one. -/
def aroundOf (a : Int) : List S83 → Int × Int × Int → Int × Int × Int
 | [], b => b
 | r :: t, _ => if a < r.f0.f1 then (r.f0.f0, r.f0.f1, r.f1) else aroundOf a t (r.f0.f0, r.f0.f1, r.f1)
abbrev with0 (x : Int × Int × Int) : Int × Int × Int × Int := (x.1, x.2.1, x.2.2, 0)
theorem around_l0 (a : Int) (rs : List S83) (hl : rs.length ≤ 4398046511104) : ∀ (n i : Nat) (b : Int × Int × Int), rs.length - i = n → i ≤ rs.length →
  Ev (fun k => words_Around.l0 k a rs (rs.length : Int) (i : Int) b.1 b.2.1 b.2.2) (with0 (aroundOf a (rs.drop i) b)) := by
 intro n
 induction n with
 | zero =>
  intro i b hn hi
  obtain rfl : i = rs.length := by omega
  rw [List.drop_length]
  refine Ev.succ (h := fun _ => some (with0 b)) (Ev.pure _) (fun k => ?_)
  rw [words_Around.l0, if_neg (by omega)]
 | succ n ih =>
  intro i b hn hi
  have hlt : i < rs.length := by omega
  have hw : wrap64 ((i : Int) + 1) = ((i + 1 : Nat) : Int) := by rw [wrap64_small (by omega) (by omega)]; omega
  have c1 : (i : Int) < (rs.length : Int) := by omega
  have c3 : (0 : Int) ≤ (i : Int) := by omega
  have ih1 := fun b => ih (i + 1) b (by omega) (by omega)
  have h1 := rd_run rs i hlt
  rw [List.drop_eq_getElem_cons hlt]
  by_cases g : a < (rs[i]).f0.f1
  ·simp only [aroundOf, if_pos g]
   refine Ev.succ (h := fun _ => some (with0 ((rs[i]).f0.f0, (rs[i]).f0.f1, (rs[i]).f1))) (Ev.pure _) (fun k => ?_)
   rw [words_Around.l0, if_pos c1, if_pos c3, if_pos c1, h1, if_pos g]
  ·simp only [aroundOf, if_neg g]
   refine Ev.succ (ih1 ((rs[i]).f0.f0, (rs[i]).f0.f1, (rs[i]).f1)) (fun k => ?_)
   rw [words_Around.l0, if_pos c1, if_pos c3, if_pos c1, h1, if_neg g, hw]
theorem around22_l0 (a : Int) (rs : List S83) (hl : rs.length ≤ 4398046511104) (e : Int) : ∀ (n i : Nat) (c : Int) (b : Int × Int × Int), rs.length - i = n + 1 → Chain c (rs.drop i) e → c ≤ a →
  Ev (fun k => galleyref22_Around.l0 k a (rs.map (·.f0)) (rs.map (·.f1)) (i : Int)) (with0 (aroundOf a (rs.drop i) b)) := by
 intro n
 induction n with
 | zero =>
  intro i c b hn hc ha
  have hlt : i < rs.length := by omega
  have hw : wrap64 ((i : Int) + 1) = ((i + 1 : Nat) : Int) := by rw [wrap64_small (by omega) (by omega)]; omega
  have c1 : (i : Int) < ((rs.map (·.f0)).length : Int) := by simp; omega
  have c2 : (i : Int) < ((rs.map (·.f1)).length : Int) := by simp; omega
  have c3 : (0 : Int) ≤ (i : Int) := by omega
  have c5 : ((i + 1 : Nat) : Int) = ((rs.map (·.f0)).length : Int) := by simp; omega
  have h1 := rd_map_hit rs i hlt
  have h2 := rd_map_kind rs i hlt
  have hd : rs.drop (i + 1) = [] := List.drop_of_length_le (by omega)
  rw [List.drop_eq_getElem_cons hlt] at hc ⊢
  have c4 : a ≥ (rs[i]).f0.f0 := by have := hc.1; omega
  rw [hd]
  refine Ev.succ (h := fun _ => some (with0 ((rs[i]).f0.f0, (rs[i]).f0.f1, (rs[i]).f1))) ?_ (fun k => ?_)
  ·have : aroundOf a [rs[i]] b = ((rs[i]).f0.f0, (rs[i]).f0.f1, (rs[i]).f1) := by
    simp only [aroundOf]
    split <;> rfl
   rw [this]
   exact Ev.pure _
  ·rw [galleyref22_Around.l0, if_pos c1, if_pos c3, h1, h2, if_pos c4, hw]
   by_cases g : a < (rs[i]).f0.f1
   ·rw [if_pos g, if_pos c2]
   ·rw [if_neg g, if_pos c5, if_pos c2]
 | succ n ih =>
  intro i c b hn hc ha
  have hlt : i < rs.length := by omega
  have hw : wrap64 ((i : Int) + 1) = ((i + 1 : Nat) : Int) := by rw [wrap64_small (by omega) (by omega)]; omega
  have c1 : (i : Int) < ((rs.map (·.f0)).length : Int) := by simp; omega
  have c2 : (i : Int) < ((rs.map (·.f1)).length : Int) := by simp; omega
  have c3 : (0 : Int) ≤ (i : Int) := by omega
  have c5 : ¬ ((i + 1 : Nat) : Int) = ((rs.map (·.f0)).length : Int) := by simp; omega
  have h1 := rd_map_hit rs i hlt
  have h2 := rd_map_kind rs i hlt
  rw [List.drop_eq_getElem_cons hlt] at hc ⊢
  have c4 : a ≥ (rs[i]).f0.f0 := by have := hc.1; omega
  have hn1 : rs.length - (i + 1) = n + 1 := by omega
  by_cases g : a < (rs[i]).f0.f1
  ·simp only [aroundOf, if_pos g]
   refine Ev.succ (h := fun _ => some (with0 ((rs[i]).f0.f0, (rs[i]).f0.f1, (rs[i]).f1))) (Ev.pure _) (fun k => ?_)
   rw [galleyref22_Around.l0, if_pos c1, if_pos c3, h1, h2, if_pos c4, if_pos g, if_pos c2]
  ·simp only [aroundOf, if_neg g]
   have c6 : (rs[i]).f0.f1 ≤ a := Int.not_lt.1 g
   refine Ev.succ (ih (i + 1) _ _ hn1 hc.2.2 c6) (fun k => ?_)
   rw [galleyref22_Around.l0, if_pos c1, if_pos c3, h1, if_pos c4, if_neg g, hw, if_neg c5]
/-- The answer of Around. -/
def aroundAt (l : List Int) (a : Int) : Int × Int × Int × Int := if a < 0 ∨ a > (l.length : Int) then (0, 0, 0, 2) else with0 (aroundOf a (runsOf l) (0, 0, 0))
theorem words_around_ev {l : List Int} (hl : l.length ≤ 4398046511103) (a : Int) : Ev (fun k => words_Around.f k l a) (aroundAt l a) := by
 refine Ev.bind (Ev.of_eq fun _ => outside_ev l a) ?_
 have hlen := runsOf_length l
 have e : words_runs.f l = some (runsOf l) := by unfold words_runs.f; rw [if_pos (by omega)]
 unfold aroundAt
 by_cases h : a < 0 ∨ a > (l.length : Int)
 ·rw [if_pos h]
  exact Ev.of_eq fun _ => if_pos (decide_eq_true h)
 ·rw [if_neg h]
  refine Ev.congr (Ev.bind (h := fun k t => words_Around.l0 k a t (t.length : Int) 0 0 0 0) (Ev.of_eq fun _ => e) (around_l0 a (runsOf l) (by omega) _ 0 (0, 0, 0) rfl (by omega))) (fun k => ?_)
  exact if_neg (by rw [decide_eq_false h]; decide)
theorem ref_around_ev {l : List Int} (hb : Bytes l) (hl : l.length ≤ 4398046511103) (a : Int) : Ev (fun k => galleyref22_Around.f k l a) (aroundAt l a) := by
 have hlen := runsOf_length l
 have hch := runs_chain hb hl
 have hj : ∀ b : Bool, b = decide (a < 0 ∨ a > (l.length : Int)) → Ev (fun k => galleyref22_Around.j0 k l a b) (aroundAt l a) := by
  intro b hb'
  unfold aroundAt
  by_cases h : a < 0 ∨ a > (l.length : Int)
  ·rw [if_pos h]
   refine Ev.succ (h := fun _ => some (0, 0, 0, 2)) (Ev.pure _) (fun k => ?_)
   rw [galleyref22_Around.j0, if_pos (by rw [hb', decide_eq_true h])]
  ·rw [if_neg h]
   refine Ev.succ (Ev.bind (h := fun k t => galleyref22_Around.l0 k a t.1 t.2 0) (runs22_ev hb hl) ?_) (fun k => ?_)
   ·rcases hn : (runsOf l).length with _ | n
    ·have hnil : runsOf l = [] := List.length_eq_zero_iff.1 hn
     rw [hnil]
     refine Ev.succ (h := fun _ => some (0, 0, 0, 0)) (Ev.pure _) (fun k => ?_)
     rw [galleyref22_Around.l0, if_neg (by simp)]
    ·exact around22_l0 a (runsOf l) (by omega) _ n 0 0 (0, 0, 0) (by omega) hch (by omega)
   ·rw [galleyref22_Around.j0, if_neg (by rw [hb', decide_eq_false h]; decide)]
 unfold galleyref22_Around.f
 by_cases h : a < 0
 ·simp only [if_pos h]
  exact hj _ (decide_eq_true (.inl h)).symm
 ·simp only [if_neg h]
  exact hj _ (by by_cases g : a > (l.length : Int) <;> simp [g, h])
end Go.Proofs.YtijbkiajhicooaaDoor.PW
namespace Go.Proofs.YtijbkiajhicooaaDoor.Pure
open Go.Proofs.YtijbkiajhicooaaDoor.PW Go.RowKit
theorem WordsAround (l0 : List Int) (a1 : Int) (hl : l0.length ≤ 1048576) (hw : ∀ x ∈ l0, (Lit.int .u8 x).wf = true) (_ha1 : (Lit.int .i64 a1).wf = true) : ∃ k, galleylaw22_WordsAround.f k l0 a1 = some true := by
 have hb := bytes_of_wf hw
 refine Ev.some (Ev.bind (Ev.of_eq fun _ => rfl) ?_)
 refine Ev.bind (Ev.of_eq fun _ => own_some l0 (by omega)) ?_
 refine Ev.bind (words_around_ev (by omega) a1) ?_
 refine Ev.bind (ref_around_ev hb (by omega) a1) ?_
 refine Ev.of_eq fun _ => ?_
 simp
end Go.Proofs.YtijbkiajhicooaaDoor.Pure
namespace Go.Proofs.YtijbkiajhicooaaDoor.PW

end Go.Proofs.YtijbkiajhicooaaDoor.PW

