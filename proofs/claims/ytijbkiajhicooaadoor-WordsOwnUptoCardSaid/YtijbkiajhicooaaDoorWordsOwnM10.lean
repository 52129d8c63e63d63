-- Written by merge.py, a program of this session's: PureWordsWraps PureWordsOwn
import Derived.Test.YtijbkiajhicooaaDoorWordsOwnM2
import Derived.Test.YtijbkiajhicooaaDoorWordsOwnM3
import Derived.Test.YtijbkiajhicooaaDoorWordsOwnM4
import Derived.Test.YtijbkiajhicooaaDoorWordsOwnM5
import Derived.Test.YtijbkiajhicooaaDoorWordsOwnM7
import Derived.Test.YtijbkiajhicooaaDoorWordsOwnM9
import Derived.Test.YtijbkiajhicooaaDoorWordsOwnM8
namespace Go.Proofs.YtijbkiajhicooaaDoor.PW
open Go.RowKit Go.Proofs.YtijbkiajhicooaaDoorW.PrintWords Go.Proofs.YtijbkiajhicooaaDoorW.PrintLast Go.Proofs.YtijbkiajhicooaaDoorW.PrintMore
attribute [local go_sem] max2_int min2_int max_two min_two max_three min_three max_four min_four   -- for this text's walks alone
set_option linter.unusedVariables false
set_option linter.unusedSimpArgs false

/-- The breaks of all lines. -/
def allWraps (l : List Int) (w : Int) (rs : List S127) : List Int := rs.flatMap fun r => wrapsOf (piece l r.f0.toNat r.f1.toNat) r.f0 w
theorem wraps_empty (w st : Int) (hw1 : 1 ≤ w) : wrapsOf [] st w = [] := by
 have : stepsL [] = [] := sf_nil (l := []) 0 (by simp)
 unfold wrapsOf
 rw [show allSteps (strOfNums []) = [] from this]
 show wrapGo [0] [false] st w 1 0 [] = []
 simp only [wrapGo]
 rw [if_neg (by simp; omega)]
theorem wrap_lines {l : List Int} (hb : Bytes l) (hl : l.length ≤ 4398046511103) (w : Int) (hw1 : 1 ≤ w) (hw2 : w ≤ 65536) : ∀ (rs : List S127) (S b : Nat) (out : List Int), LChain l (S : Int) rs → AtE l S b → out.length ≤ b →
  Ev (fun k => galleyref22_Wrap.l0 k w ((ksL l).length : Int) out (b : Int) (psL l) (ksL l)) (out ++ allWraps l w rs, 0) := by
 have hl4 : l.length ≤ 4398046511104 := by omega
 intro rs
 induction rs with
 | nil => intro S b out h; exact absurd h (by simp [LChain])
 | cons r rs ih =>
  intro S b out h hA ho
  obtain ⟨h0, h1, h2, h3⟩ := h
  obtain ⟨C, hC⟩ : ∃ C : Nat, r.f1 = (C : Int) := ⟨r.f1.toNat, by omega⟩
  have hSC : S ≤ C := by omega
  rw [hC] at h2
  have hone : wrapsOf (piece l r.f0.toNat r.f1.toNat) r.f0 w = wrapsOf (piece l S C) (S : Int) w := by rw [h0, hC, Int.toNat_natCast, Int.toNat_natCast]
  unfold allWraps
  rw [List.flatMap_cons, hone]
  by_cases hS : S < l.length
  ·rcases h3 with ⟨h3, h4, _⟩ | ⟨h3, h4⟩
   ·have hCl : C = l.length := by omega
    have hv : Vis l C := vis_low hb hl4 C (by omega) (.inl hCl)
    have hE := corr_end hb hl hSC (by omega) hv h2 hA
    refine wrap_line hb hl hSC (by omega) hv h2 hA (.inl hCl) hS w hw1 hw2 out ho ?_
    rw [hCl] at hE
    have hn := atE_end hE
    rw [hCl]
    have hnn : ¬ (b : Int) + ((stepsL (piece l S l.length)).length : Int) + 1 < ((ksL l).length : Int) := by omega
    rw [h3, List.flatMap_nil, List.append_nil]
    refine Ev.succ (Ev.pure (out ++ wrapsOf (piece l S l.length) (S : Int) w, (0 : Int))) (fun k => ?_)
    rw [galleyref22_Wrap.l0, if_neg hnn]
   ·obtain ⟨n, hn, hE⟩ := lend_of h3 (by omega)
    rw [hC, Int.toNat_natCast] at hE
    rw [hn] at h4
    obtain ⟨e1, e2, e3, e4, e5⟩ := hE
    have hv : Vis l C := vis_low hb hl4 C (by omega) (.inr (end_low e3))
    have hEd := corr_end hb hl hSC (Nat.le_of_lt e1) hv h2 hA
    have hA1 := atE_next hb hl4 hEd e1
    rw [(low_long hb hl4 C e1 (end_low e3)).2] at hA1
    obtain ⟨q1, q2⟩ := wrapsOf_length S C (Nat.le_of_lt e1) hSC (S : Int) w hw1
    obtain ⟨m, hm⟩ : ∃ m, (stepsL (piece l S C)).length = m := ⟨_, rfl⟩
    have hlen : (out ++ wrapsOf (piece l S C) (S : Int) w).length ≤ b + m + 1 := by rw [List.length_append]; omega
    refine wrap_line hb hl hSC (Nat.le_of_lt e1) hv h2 hA (.inr ⟨e1, e3⟩) hS w hw1 hw2 out ho ?_
    rw [hm] at hA1 ⊢
    rw [← List.append_assoc]
    have hc1 : (b : Int) + (m : Int) + 1 = ((b + m + 1 : Nat) : Int) := by omega
    rw [hc1]
    rcases e5 with e5 | ⟨e5, e6, e7, e8⟩
    ·subst e5
     exact ih _ _ _ h4 hA1 hlen
    ·subst e5
     have hA2 := atE_next hb hl4 hA1 e6
     rw [(low_long hb hl4 (C + 1) e6 (end_low (.inl e8))).2] at hA2
     obtain ⟨c1, c2, c3⟩ := atE_len hb hl4 hA1 e6
     have c0 : 0 ≤ ((b + m + 1 : Nat) : Int) := by omega
     have hsm := hA1.2.1
     have hz : wrap64 (((b + m + 1 : Nat) : Int) - ((b + m + 1 : Nat) : Int)) = 0 := by rw [Int.sub_self]; exact wrap64_small (by decide) (by decide)
     have hng : ¬ (0 : Int) > w := by omega
     have hs1 : wrap64 (((b + m + 1 : Nat) : Int) + 1) = ((b + m + 1 + 1 : Nat) : Int) := by rw [wrap64_small (by omega) (by omega)]; omega
     have hlen2 : (out ++ wrapsOf (piece l S C) (S : Int) w).length ≤ b + m + 1 + 1 := Nat.le_succ_of_le hlen
     have hrec := ih _ _ _ h4 hA2 hlen2
     have hk := (kind_end hb hl4 (C + 1) e6).2 (.inl e8)
     rw [← atE_kind hb hl4 hA1 e6] at hk
     refine Ev.succ (h := fun k => galleyref22_Wrap.l1 k w ((ksL l).length : Int) (out ++ wrapsOf (piece l S C) (S : Int) w) ((b + m + 1 : Nat) : Int) ((b + m + 1 : Nat) : Int) (psL l) (ksL l)) ?_ (fun k => by rw [galleyref22_Wrap.l0, if_pos c1])
     refine Ev.succ (h := fun k => galleyref22_Wrap.j3 k w ((ksL l).length : Int) (out ++ wrapsOf (piece l S C) (S : Int) w) ((b + m + 1 : Nat) : Int) ((b + m + 1 : Nat) : Int) (psL l) (ksL l)) ?_ (fun k => by rw [galleyref22_Wrap.l1, if_pos c1, if_pos c0, if_pos c1, if_pos hk])
     refine Ev.succ (h := fun k => galleyref22_Wrap.l2 k w ((ksL l).length : Int) (out ++ wrapsOf (piece l S C) (S : Int) w) ((b + m + 1 : Nat) : Int) ((b + m + 1 : Nat) : Int) (psL l) (ksL l)) ?_ (fun k => by rw [galleyref22_Wrap.j3])
     exact Ev.succ hrec (fun k => by rw [galleyref22_Wrap.l2, hz, if_neg hng, hs1])
  ·have hSl : S = l.length := by have := hA.1; omega
   subst hSl
   have hn := atE_end hA
   have hCl : C = l.length := by
    rcases h3 with ⟨_, h4, _⟩ | ⟨h3, _⟩
    ·omega
    ·rcases h3 with h | h | h <;> omega
   have hrs : rs = [] := by
    rcases h3 with ⟨h3, _⟩ | ⟨h3, _⟩
    ·exact h3
    ·rcases h3 with h | h | h <;> omega
   have hpc : piece l l.length C = [] := by
    apply List.eq_nil_of_length_eq_zero
    rw [piece_len l _ _ (by omega)]
    omega
   rw [hpc, wraps_empty w _ hw1, hrs, List.flatMap_nil, List.append_nil, List.append_nil]
   refine Ev.succ (Ev.pure (out, (0 : Int))) (fun k => ?_)
   rw [galleyref22_Wrap.l0, if_neg (by omega)]
theorem words_wrap_l0 {l : List Int} (hl : l.length ≤ 4398046511103) (w : Int) (hw1 : 1 ≤ w) (hw2 : w ≤ 65536) : ∀ (rs : List S127) (i S : Nat) (out : List Int), (allLines l).drop i = rs → LChain l (S : Int) rs → S ≤ l.length → out.length ≤ S →
  Ev (fun k => words_Wrap.l0 k l w out ((allLines l).length : Int) (i : Int)) (out ++ allWraps l w rs, 0) := by
 have hal := allLines_length l
 intro rs
 induction rs with
 | nil => intro i S out h0 h; exact absurd h (by simp [LChain])
 | cons r rs ih =>
  intro i S out hd h hSl ho
  obtain ⟨h0, h1, h2, h3⟩ := h
  have hi : i < (allLines l).length := by
   refine Nat.lt_of_not_le fun h => ?_
   rw [List.drop_of_length_le h] at hd
   cases hd
  have hlen0 : (allLines l).length - i = rs.length + 1 := by rw [← List.length_drop, hd]; rfl
  have hnn : rs.length = 0 → ¬ ((i + 1 : Nat) : Int) < ((allLines l).length : Int) := fun e => by omega
  clear hlen0
  have hd2 := hd
  rw [List.drop_eq_getElem_cons hi] at hd2
  obtain ⟨hr, hd3⟩ := List.cons.inj hd2
  have hrd := rd_line (allLines l) i hi
  rw [hr] at hrd
  have hli := line_ev hl i hi
  rw [hrd] at hli
  obtain ⟨C, hC⟩ : ∃ C : Nat, r.f1 = (C : Int) := ⟨r.f1.toNat, by omega⟩
  have hSC : S ≤ C := by omega
  have hCl : C ≤ l.length := by
   rcases h3 with ⟨_, h4, _⟩ | ⟨h3, _⟩
   ·omega
   ·rcases h3 with h | h | h <;> omega
  obtain ⟨q1, q2⟩ := wrapsOf_length S C hCl hSC (S : Int) w hw1
  have hpl := piece_len l S C hCl
  have hwr : words_wrapped.f (piece l S C) (S : Int) w = some (wrapsOf (piece l S C) (S : Int) w) := by
   unfold words_wrapped.f
   rw [if_pos ⟨by omega, hw1, hw2⟩]
  have hlen : (out ++ wrapsOf (piece l S C) (S : Int) w).length ≤ C := by rw [List.length_append]; omega
  have c1 : (i : Int) < ((allLines l).length : Int) := by omega
  have c2 : (0 : Int) ≤ (S : Int) := by omega
  have c3 : (S : Int) ≤ (C : Int) := by omega
  have c4 : (C : Int) ≤ (l.length : Int) := by omega
  have c5 : out.length + (wrapsOf (piece l S C) (S : Int) w).length < 17592186044416 := by omega
  have hw : wrap64 ((i : Int) + 1) = ((i + 1 : Nat) : Int) := by rw [wrap64_small (by omega) (by omega)]; omega
  have hone : wrapsOf (piece l r.f0.toNat r.f1.toNat) r.f0 w = wrapsOf (piece l S C) (S : Int) w := by rw [h0, hC, Int.toNat_natCast, Int.toNat_natCast]
  unfold allWraps
  rw [List.flatMap_cons, hone, ← List.append_assoc]
  rw [h0, hC] at hli
  refine Ev.succ (h := fun k => words_Wrap.l0 k l w (out ++ wrapsOf (piece l S C) (S : Int) w) ((allLines l).length : Int) ((i + 1 : Nat) : Int)) ?_ (fun k => ?_)
  ·rcases h3 with ⟨h3, _⟩ | ⟨h3, h4⟩
   ·subst h3
    have hnn := hnn rfl
    rw [List.flatMap_nil, List.append_nil]
    refine Ev.succ (Ev.pure (out ++ wrapsOf (piece l S C) (S : Int) w, (0 : Int))) (fun k => ?_)
    rw [words_Wrap.l0, if_neg hnn]
   ·obtain ⟨n, hn, hE⟩ := lend_of h3 (by omega)
    rw [hC, Int.toNat_natCast] at hE
    rw [hn] at h4
    have hCn : C ≤ n := by rcases hE.2.2.2.2 with e | ⟨e, _⟩ <;> omega
    exact ih (i + 1) n _ hd3 h4 hE.2.1 (Nat.le_trans hlen hCn)
  ·rw [words_Wrap.l0, if_pos c1, hli, Option.bind_some]
   dsimp only
   rw [if_pos c2, if_pos c3, if_pos c4, Int.toNat_natCast, Int.toNat_natCast, hwr, Option.bind_some, if_pos c5, hw]
/-- The answer of Wrap. -/
def wrapAt (l : List Int) (w : Int) : List Int × Int := if w < 1 ∨ w > 65536 then ([], 2) else (allWraps l w (allLines l), 0)
theorem words_wrap_ev {l : List Int} (hl : l.length ≤ 4398046511103) (w : Int) : Ev (fun k => words_Wrap.f k l w) (wrapAt l w) := by
 have hall : lines_Count.f l = some ((allLines l).length : Int) := by
  unfold lines_Count.f lines_all.f
  rw [if_pos hl, Option.bind_some]
 have hj : ∀ b : Bool, b = decide (w < 1 ∨ w > 65536) → Ev (fun k => words_Wrap.j0 k l w b) (wrapAt l w) := by
  intro b hb'
  unfold wrapAt
  by_cases h : w < 1 ∨ w > 65536
  ·rw [if_pos h]
   refine Ev.succ (Ev.pure (([] : List Int), (2 : Int))) (fun k => ?_)
   rw [words_Wrap.j0, if_pos (by rw [hb', decide_eq_true h])]
  ·rw [if_neg h]
   have := words_wrap_l0 hl w (by omega) (by omega) (allLines l) 0 0 [] rfl (allLines_chain l) (Nat.zero_le _) (Nat.le_refl _)
   rw [List.nil_append] at this
   refine Ev.succ this (fun k => ?_)
   rw [words_Wrap.j0, if_neg (by rw [hb', decide_eq_false h]; decide), hall, Option.bind_some]
   rfl
 unfold words_Wrap.f
 by_cases h1 : w < 1
 ·simp only [if_pos h1]
  exact hj _ (decide_eq_true (.inl h1)).symm
 simp only [if_neg h1]
 exact hj _ (by by_cases g : w > 65536 <;> simp [g, h1])
theorem ref_wrap_ev {l : List Int} (hb : Bytes l) (hl : l.length ≤ 4398046511103) (w : Int) : Ev (fun k => galleyref22_Wrap.f k l w) (wrapAt l w) := by
 have hj : ∀ b : Bool, b = decide (w < 1 ∨ w > 65536) → Ev (fun k => galleyref22_Wrap.j0 k l w b) (wrapAt l w) := by
  intro b hb'
  unfold wrapAt
  by_cases h : w < 1 ∨ w > 65536
  ·rw [if_pos h]
   refine Ev.succ (Ev.pure (([] : List Int), (2 : Int))) (fun k => ?_)
   rw [galleyref22_Wrap.j0, if_pos (by rw [hb', decide_eq_true h])]
  ·rw [if_neg h]
   have := wrap_lines hb hl w (by omega) (by omega) (allLines l) 0 0 [] (allLines_chain l) (atE_zero l) (Nat.le_refl _)
   rw [List.nil_append] at this
   refine Ev.succ (Ev.bind (h := fun k t => galleyref22_Wrap.l0 k w (t.2.length : Int) [] 0 t.1 t.2) (of22_ev hb hl) this) (fun k => ?_)
   rw [galleyref22_Wrap.j0, if_neg (by rw [hb', decide_eq_false h]; decide)]
 unfold galleyref22_Wrap.f
 by_cases h1 : w < 1
 ·simp only [if_pos h1]
  exact hj _ (decide_eq_true (.inl h1)).symm
 simp only [if_neg h1]
 exact hj _ (by by_cases g : w > 65536 <;> simp [g, h1])
theorem same_ints_l0 (a : List Int) (hl : a.length ≤ 4398046511104) : ∀ (n i : Nat), a.length - i = n → i ≤ a.length → Ev (fun k => galleyref01_SameInts.l0 k a a (i : Int)) true := by
 intro n
 induction n with
 | zero =>
  intro i hn hi
  obtain rfl : i = a.length := by omega
  refine Ev.succ (h := fun _ => some true) (Ev.pure true) (fun k => ?_)
  rw [galleyref01_SameInts.l0, if_neg (by omega)]
 | succ n ih =>
  intro i hn hi
  have hw : wrap64 ((i : Int) + 1) = ((i + 1 : Nat) : Int) := by rw [wrap64_small (by omega) (by omega)]; omega
  refine Ev.succ (ih (i + 1) (by omega) (by omega)) (fun k => ?_)
  rw [galleyref01_SameInts.l0, if_pos (by omega), if_pos (by omega), if_pos (by omega), hw, if_pos rfl]
theorem same_ints (a : List Int) (hl : a.length ≤ 4398046511104) : Ev (fun k => galleyref01_SameInts.f k a a) true := by
 refine Ev.congr (same_ints_l0 a hl a.length 0 (by omega) (by omega)) (fun k => ?_)
 unfold galleyref01_SameInts.f
 rw [if_pos rfl]
 rfl
theorem allWraps_length {l : List Int} (w : Int) (hw1 : 1 ≤ w) : ∀ (rs : List S127) (S : Nat), LChain l (S : Int) rs → S ≤ l.length → S + (allWraps l w rs).length ≤ l.length := by
 intro rs
 induction rs with
 | nil => intro S h; exact absurd h (by simp [LChain])
 | cons r rs ih =>
  intro S h hSl
  obtain ⟨h0, h1, h2, h3⟩ := h
  obtain ⟨C, hC⟩ : ∃ C : Nat, r.f1 = (C : Int) := ⟨r.f1.toNat, by omega⟩
  have hSC : S ≤ C := by omega
  have hCl : C ≤ l.length := by
   rcases h3 with ⟨_, h4, _⟩ | ⟨h3, _⟩
   ·omega
   ·rcases h3 with h | h | h <;> omega
  obtain ⟨q1, q2⟩ := wrapsOf_length S C hCl hSC (S : Int) w hw1
  have hone : wrapsOf (piece l r.f0.toNat r.f1.toNat) r.f0 w = wrapsOf (piece l S C) (S : Int) w := by rw [h0, hC, Int.toNat_natCast, Int.toNat_natCast]
  unfold allWraps
  rw [List.flatMap_cons, hone, List.length_append]
  rcases h3 with ⟨h3, _⟩ | ⟨h3, h4⟩
  ·rw [h3, List.flatMap_nil, List.length_nil]
   omega
  ·obtain ⟨n, hn, hE⟩ := lend_of h3 (by omega)
   rw [hC, Int.toNat_natCast] at hE
   rw [hn] at h4
   have hCn : C ≤ n := by rcases hE.2.2.2.2 with e | ⟨e, _⟩ <;> omega
   have := ih n h4 hE.2.1
   unfold allWraps at this
   omega
theorem wrapAt_length (l : List Int) (w : Int) : (wrapAt l w).1.length ≤ l.length := by
 unfold wrapAt
 split
 ·exact Nat.zero_le _
 ·have := allWraps_length (l := l) w (by omega) (allLines l) 0 (allLines_chain l) (Nat.zero_le _)
  show (allWraps l w (allLines l)).length ≤ _
  omega
end Go.Proofs.YtijbkiajhicooaaDoor.PW
namespace Go.Proofs.YtijbkiajhicooaaDoor.Pure
open Go.Proofs.YtijbkiajhicooaaDoor.PW Go.RowKit
end Go.Proofs.YtijbkiajhicooaaDoor.Pure
namespace Go.Proofs.YtijbkiajhicooaaDoor.PW

end Go.Proofs.YtijbkiajhicooaaDoor.PW

namespace Go.Proofs.YtijbkiajhicooaaDoor.PW
open Go.RowKit Go.Proofs.YtijbkiajhicooaaDoorW.PrintWords Go.Proofs.YtijbkiajhicooaaDoorW.PrintLast Go.Proofs.YtijbkiajhicooaaDoorW.PrintMore
attribute [local go_sem] max2_int min2_int max_two min_two max_three min_three max_four min_four   -- for this text's walks alone
set_option linter.unusedVariables false
set_option linter.unusedSimpArgs false

theorem bind_some_id {α : Type} (o : Option α) : (o.bind fun v => some v) = o := by cases o <;> rfl
section
variable (l : List Int) (w : Int)
theorem own_l3 (ys : List S36) (zs : List Int) (N : Nat) (hN : N ≤ 4398046511110)
  (h : Ev (fun k => (galleyref22_Wrap.f k l w).bind fun b => (galleyref22_All.f k l).bind fun t => (galleyref22_SameHits.f k ys t).bind fun u => if u = true then (galleyref01_SameInts.f k zs b.1).bind fun v => some v else some false) true) :
  ∀ (n i : Nat) (xs : List Int), N - i = n → i ≤ N → xs.length = N → Ev (fun k => galleylaw22_WordsOwn.l3 k l w xs ys zs (N : Int) (i : Int)) true := by
 intro n
 induction n with
 | zero =>
  intro i xs hn hi hx
  have c1 : ¬ (i : Int) < (N : Int) := by omega
  refine Ev.succ h (fun k => ?_)
  rw [galleylaw22_WordsOwn.l3, if_neg c1]
 | succ n ih =>
  intro i xs hn hi hx
  have c1 : (i : Int) < (N : Int) := by omega
  have c2 : 0 ≤ (i : Int) := by omega
  have c3 : (i : Int) < (xs.length : Int) := by omega
  have ih1 := ih (i + 1) (xs.set ((i : Int).toNat) 32) (by omega) (by omega) (by rw [List.length_set]; exact hx)
  have hw : wrap64 ((i : Int) + 1) = ((i + 1 : Nat) : Int) := by rw [wrap64_small (by omega) (by omega)]; omega
  refine Ev.succ ih1 (fun k => ?_)
  rw [galleylaw22_WordsOwn.l3, if_pos c1, if_pos c2, if_pos c3, hw]
theorem own_l2 (x7 : List Int) (ys : List S36) (zs : List Int) (h : Ev (fun k => galleylaw22_WordsOwn.l3 k l w x7 ys zs (x7.length : Int) 0) true) :
  ∀ (n i : Nat) (hs : List S36) (is : List Int), 40 - i = n → i ≤ 40 → hs.length ≤ 4398046511110 + i → is.length ≤ 4398046511110 + i → Ev (fun k => galleylaw22_WordsOwn.l2 k l w x7 hs ys is zs (i : Int)) true := by
 intro n
 induction n with
 | zero =>
  intro i hs is hn hi h1 h2
  have c1 : ¬ (i : Int) < 40 := by omega
  refine Ev.succ h (fun k => ?_)
  rw [galleylaw22_WordsOwn.l2, if_neg c1]
 | succ n ih =>
  intro i hs is hn hi h1 h2
  have c1 : (i : Int) < 40 := by omega
  have c2 : hs.length < 8796093022208 := by omega
  have c3 : is.length < 17592186044416 := by omega
  have ih1 := ih (i + 1) (hs ++ [(⟨(-4), 0⟩ : S36)]) (is ++ [(-5)]) (by omega) (by omega) (by simp; omega) (by simp; omega)
  have hw : wrap64 ((i : Int) + 1) = ((i + 1 : Nat) : Int) := by rw [wrap64_small (by omega) (by omega)]; omega
  refine Ev.succ ih1 (fun k => ?_)
  rw [galleylaw22_WordsOwn.l2, if_pos c1, if_pos c2, if_pos c3, hw]
theorem own_l1 (x7 : List Int) (hs ys : List S36) (zs : List Int) (N : Nat) (hN : N ≤ 4398046511110)
  (h : ∀ is : List Int, is.length = N → Ev (fun k => galleylaw22_WordsOwn.l2 k l w x7 hs ys is zs 0) true) :
  ∀ (n i : Nat) (is : List Int), N - i = n → i ≤ N → is.length = N → Ev (fun k => galleylaw22_WordsOwn.l1 k l w x7 hs ys is zs (N : Int) (i : Int)) true := by
 intro n
 induction n with
 | zero =>
  intro i is hn hi hx
  have c1 : ¬ (i : Int) < (N : Int) := by omega
  refine Ev.succ (h is hx) (fun k => ?_)
  rw [galleylaw22_WordsOwn.l1, if_neg c1]
 | succ n ih =>
  intro i is hn hi hx
  have c1 : (i : Int) < (N : Int) := by omega
  have c2 : 0 ≤ (i : Int) := by omega
  have c3 : (i : Int) < (is.length : Int) := by omega
  have ih1 := ih (i + 1) (is.set ((i : Int).toNat) (-3)) (by omega) (by omega) (by rw [List.length_set]; exact hx)
  have hw : wrap64 ((i : Int) + 1) = ((i + 1 : Nat) : Int) := by rw [wrap64_small (by omega) (by omega)]; omega
  refine Ev.succ ih1 (fun k => ?_)
  rw [galleylaw22_WordsOwn.l1, if_pos c1, if_pos c2, if_pos c3, hw]
theorem own_l0 (x7 : List Int) (ys : List S36) (is zs : List Int) (N : Nat) (hN : N ≤ 4398046511110)
  (h : ∀ hs : List S36, hs.length = N → Ev (fun k => galleylaw22_WordsOwn.l1 k l w x7 hs ys is zs (is.length : Int) 0) true) :
  ∀ (n i : Nat) (hs : List S36), N - i = n → i ≤ N → hs.length = N → Ev (fun k => galleylaw22_WordsOwn.l0 k l w x7 hs ys is zs (N : Int) (i : Int)) true := by
 intro n
 induction n with
 | zero =>
  intro i hs hn hi hx
  have c1 : ¬ (i : Int) < (N : Int) := by omega
  refine Ev.succ (h hs hx) (fun k => ?_)
  rw [galleylaw22_WordsOwn.l0, if_neg c1]
 | succ n ih =>
  intro i hs hn hi hx
  have c1 : (i : Int) < (N : Int) := by omega
  have c2 : 0 ≤ (i : Int) := by omega
  have c3 : (i : Int) < (hs.length : Int) := by omega
  have ih1 := ih (i + 1) (hs.set ((i : Int).toNat) (⟨(-1), (-2)⟩ : S36)) (by omega) (by omega) (by rw [List.length_set]; exact hx)
  have hw : wrap64 ((i : Int) + 1) = ((i + 1 : Nat) : Int) := by rw [wrap64_small (by omega) (by omega)]; omega
  refine Ev.succ ih1 (fun k => ?_)
  rw [galleylaw22_WordsOwn.l0, if_pos c1, if_pos c2, if_pos c3, hw]
end
theorem str_ab (l : List Int) : (strOfNums (l ++ [65, 66])).toList = ((strOfNums l) ++ (⟨#[65, 66]⟩ : ByteArray)).toList := by
 congr 1
 apply ByteArray.ext
 rw [ByteArray.data_append]
 simp [strOfNums]
end Go.Proofs.YtijbkiajhicooaaDoor.PW
namespace Go.Proofs.YtijbkiajhicooaaDoor.Pure
open Go.Proofs.YtijbkiajhicooaaDoor.PW Go.RowKit
theorem WordsOwn (l0 : List Int) (a1 a2 : Int) (hl : l0.length ≤ 1048576) (hw : ∀ x ∈ l0, (Lit.int .u8 x).wf = true) (_ha1 : (Lit.int .i64 a1).wf = true) (_ha2 : (Lit.int .i64 a2).wf = true) : ∃ k, galleylaw22_WordsOwn.f k l0 a1 a2 = some true := by
 have hb := bytes_of_wf hw
 have hl3 : l0.length ≤ 4398046511103 := by omega
 have h1 := wrapAt_length l0 a2
 have h2 := wordsOf_length l0
 have hA := words_all_ev hl3
 have hW := words_wrap_ev hl3 a2
 refine Ev.some (Ev.bind (Ev.of_eq fun _ => rfl) ?_)
 refine Ev.bind (Ev.of_eq fun _ => own_some l0 hl3) ?_
 have e2 : l0.length + ([65, 66] : List Int).length < 140737488355328 := by simp only [List.length_cons, List.length_nil]; omega
 have hfin := own_l3 l0 a2 (wordsOf l0) (wrapAt l0 a2).1 (l0 ++ [65, 66]).length (by rw [List.length_append]; simp only [List.length_cons, List.length_nil]; omega)
  (Ev.bind (ref_wrap_ev hb hl3 a2) (Ev.bind (ref_all_ev hb hl3) (Ev.bind (same_hits (wordsOf l0) (by omega)) (Ev.congr (same_ints (wrapAt l0 a2).1 (by omega)) (fun k => by rw [if_pos rfl]; exact bind_some_id _)))))
 have h3 := hfin (l0 ++ [65, 66]).length 0 (l0 ++ [65, 66]) rfl (Nat.zero_le _) rfl
 have h4 := own_l2 l0 a2 (l0 ++ [65, 66]) (wordsOf l0) (wrapAt l0 a2).1 h3
 have h5 := fun hs (hh : hs.length = (wordsOf l0).length) => own_l1 l0 a2 (l0 ++ [65, 66]) hs (wordsOf l0) (wrapAt l0 a2).1 (wrapAt l0 a2).1.length (by omega) (fun is hi => h4 40 0 hs is rfl (by decide) (by omega) (by omega)) (wrapAt l0 a2).1.length 0 (wrapAt l0 a2).1 rfl (Nat.zero_le _) rfl
 have h6 := own_l0 l0 a2 (l0 ++ [65, 66]) (wordsOf l0) (wrapAt l0 a2).1 (wrapAt l0 a2).1 (wordsOf l0).length (by omega) h5 (wordsOf l0).length 0 (wordsOf l0) rfl (Nat.zero_le _) rfl
 have htake : (l0 ++ [65, 66]).take ((l0.length : Int) : Int).toNat = l0 := by rw [Int.toNat_natCast]; simp
 have hlen : ((l0 ++ [65, 66]).length : Int) = (l0.length : Int) + 2 := by rw [List.length_append]; rfl
 have c1 : 0 ≤ (l0.length : Int) := by omega
 have c2 : (l0.length : Int) ≤ ((l0 ++ [65, 66]).length : Int) := by omega
 have c3 : (strOfNums l0).size + 2 ≤ 9223372036854775807 := by rw [strOfNums_size]; omega
 refine Ev.congr (h := fun k => (words_All.f k l0).bind fun t450 => (words_All.f k l0).bind fun t453 => (words_Wrap.f k l0 a2).bind fun bt456 => (words_Wrap.f k l0 a2).bind fun bt460 => (words_Around.f k l0 a1).bind fun _ => (words_Next.f k l0 a1).bind fun _ => (words_Prev.f k l0 a1).bind fun _ => (words_Column.f l0 a1 a2).bind fun _ =>
  galleylaw22_WordsOwn.l0 k l0 a2 (l0 ++ [65, 66]) t450 t453 bt456.1 bt460.1 (t450.length : Int) 0) ?_ (fun k => ?_)
 ·refine Ev.bind hA (Ev.bind hA (Ev.bind hW (Ev.bind hW (Ev.bind (words_around_ev hl3 a1) (Ev.bind (words_next_ev hl3 a1) (Ev.bind (words_prev_ev hl3 a1) (Ev.bind (Ev.of_eq fun _ => words_column hb hl3 a1 a2) ?_)))))))
  exact h6
 ·simp only [Option.bind_some]
  rw [if_pos e2, if_pos c1, if_pos c2]
  simp only [htake, if_pos c3, if_pos (str_ab l0)]
end Go.Proofs.YtijbkiajhicooaaDoor.Pure
namespace Go.Proofs.YtijbkiajhicooaaDoor.PW

end Go.Proofs.YtijbkiajhicooaaDoor.PW

