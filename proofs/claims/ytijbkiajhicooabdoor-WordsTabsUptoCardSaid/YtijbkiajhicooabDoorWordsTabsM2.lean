-- Written by merge.py, a program of this session's: PWx34 PWx35 PWx14 PWx16 PWx17 PWx2 PWx18
import Derived.Test.YtijbkiajhicooabDoorWordsTabsM1
import Derived.Lib.OthersKept
import Derived.RangeFuncNested
import Derived.RangeFuncLeaves
import Derived.Shelf.Abstract
import Derived.Shelf.RegionOpen
import Derived.OwnWalkIn
import Derived.TacticsInMore
import Derived.LoopNIn
import Derived.LoopIn
namespace Go.Proofs.YtijbkiajhicooabDoor.PW
open Go.RowKit Go.Proofs.YtijbkiajhicooabDoorW.PrintWords Go.Proofs.YtijbkiajhicooabDoorW.PrintLast Go.Proofs.YtijbkiajhicooabDoorW.PrintMore
attribute [local go_sem] max2_int min2_int max_two min_two max_three min_three max_four min_four   -- for this text's walks alone
set_option linter.unusedVariables false
set_option linter.unusedSimpArgs false

def lines_Line.f (l0 : List Int) (a1 : Int) : Option (Int × Int × Int × Int) := (lines_all.f l0).bind fun t170 => (if a1 < 0 then (some (0, 0, 0, 2)) else (if a1 ≥ (t170.length : Int) then (some (0, 0, 0, 2)) else (if 0 ≤ a1 then (if a1 < (t170.length : Int) then (some ((rd_T153 t170 a1).f0, (rd_T153 t170 a1).f1, (rd_T153 t170 a1).f3, 0)) else (none)) else (none))))
set_option maxHeartbeats 8000000 in
set_option maxRecDepth 100000 in
theorem lines_Line.calls (A0 : Option Addr) (c0 : Nat) (l0 : List Int) (a1 : Int) (r1 : Int) (r2 : Int) (r3 : Int) (r4 : Int) (w : World) (hr0 : Kd.C (Kd.int .u8) w A0 l0.length l0) (hc0 : l0.length ≤ c0) (h : lines_Line.f l0 a1 = some (r1, r2, r3, r4)) :
  Calls Tryd.prog 56 #[.slice A0 l0.length c0, .int .i64 a1] w fun e w' => e = .returned (.tuple #[.int .i64 r1, .int .i64 r2, .int .i64 r3, .int .i64 r4]) ∧ Below w.heap.size w w' := by
 have HR0 := Aside0.mk hr0
 have HC0 := Aside0.mk hc0
 clear hr0 hc0
 have HB := Aside0.mk (Below.refl w.heap.size w)
 have H : ((lines_all.f l0).bind fun t170 => (if a1 < 0 then (some (0, 0, 0, 2)) else (if a1 ≥ (t170.length : Int) then (some (0, 0, 0, 2)) else (if 0 ≤ a1 then (if a1 < (t170.length : Int) then (some ((rd_T153 t170 a1).f0, (rd_T153 t170 a1).f1, (rd_T153 t170 a1).f3, 0)) else (none)) else (none))))) = some (r1, r2, r3, r4) := h
 clear h
 replace H := Option.bind_eq_some_iff.mp H
 obtain ⟨t170, A30, H⟩ := H
 replace H : (if a1 < 0 then (some (0, 0, 0, 2)) else (if a1 ≥ (t170.length : Int) then (some (0, 0, 0, 2)) else (if 0 ≤ a1 then (if a1 < (t170.length : Int) then (some ((rd_T153 t170 a1).f0, (rd_T153 t170 a1).f1, (rd_T153 t170 a1).f3, 0)) else (none)) else (none)))) = some (r1, r2, r3, r4) := H
 have A3 := Aside0.mk A30
 clear A30
 by_cases c4 : a1 < 0
 ·rw [if_pos c4] at H
  have c4b0 : decide (a1 < 0) = true := decide_eq_true c4
  clear c4
  simp only [Option.some.injEq, Prod.mk.injEq] at H
  obtain ⟨rfl, rfl, rfl, rfl⟩ := H
  go_enter Tryd.func56, Tryd.ntmps56
  go_wp2_with (first | (go_at_call 85; (with_reducible refine (lines_all.calls _ _ l0 t170 _ ?side1 ?side2 A3.out).mono ?_); (case side1 => repeat (first | exact HR0.out | (with_reducible refine Kd.C_alloc ?_ _) | (with_reducible refine Kd.C_drewN ?_ _) | (with_reducible refine Kd.C_drew ?_))); (case side2 => exact HC0.out); rintro e w5 ⟨v171, rfl, ho0, hb⟩; have n0_ := Aside0.mk (Kd.R_lower ho0 (below_size (by repeat (first | (with_reducible first | exact HB.out | apply below_alloc | apply pw_below_drewN | apply below_drew1) | exact HB.out)))); have n1_ := Aside0.mk (below_step (by repeat (first | (with_reducible first | exact HB.out | apply below_alloc | apply pw_below_drewN | apply below_drew1) | exact HB.out)) hb); clear HB; have HO172 := n0_; have HB := n1_; clear n0_ n1_; (try clear hb); (try clear hb2); (try clear hk); (try clear hi); (try clear ho0)))
  repeat (go_quiet (first | (go_at_call 85; (with_reducible refine (lines_all.calls _ _ l0 t170 _ ?side1 ?side2 A3.out).mono ?_); (case side1 => repeat (first | exact HR0.out | (with_reducible refine Kd.C_alloc ?_ _) | (with_reducible refine Kd.C_drewN ?_ _) | (with_reducible refine Kd.C_drew ?_))); (case side2 => exact HC0.out); rintro e w5 ⟨v171, rfl, ho0, hb⟩; have n0_ := Aside0.mk (Kd.R_lower ho0 (below_size (by repeat (first | (with_reducible first | exact HB.out | apply below_alloc | apply pw_below_drewN | apply below_drew1) | exact HB.out)))); have n1_ := Aside0.mk (below_step (by repeat (first | (with_reducible first | exact HB.out | apply below_alloc | apply pw_below_drewN | apply below_drew1) | exact HB.out)) hb); clear HB; have HO172 := n0_; have HB := n1_; clear n0_ n1_; (try clear hb); (try clear hb2); (try clear hk); (try clear hi); (try clear ho0))); try go_wp2_with (first | (go_at_call 85; (with_reducible refine (lines_all.calls _ _ l0 t170 _ ?side1 ?side2 A3.out).mono ?_); (case side1 => repeat (first | exact HR0.out | (with_reducible refine Kd.C_alloc ?_ _) | (with_reducible refine Kd.C_drewN ?_ _) | (with_reducible refine Kd.C_drew ?_))); (case side2 => exact HC0.out); rintro e w5 ⟨v171, rfl, ho0, hb⟩; have n0_ := Aside0.mk (Kd.R_lower ho0 (below_size (by repeat (first | (with_reducible first | exact HB.out | apply below_alloc | apply pw_below_drewN | apply below_drew1) | exact HB.out)))); have n1_ := Aside0.mk (below_step (by repeat (first | (with_reducible first | exact HB.out | apply below_alloc | apply pw_below_drewN | apply below_drew1) | exact HB.out)) hb); clear HB; have HO172 := n0_; have HB := n1_; clear n0_ n1_; (try clear hb); (try clear hb2); (try clear hk); (try clear hi); (try clear ho0))))
  refine bodyPost_ret (results_list (rs := [.tmp 4, .tmp 5, .tmp 6, .tmp 7]) rfl (by simp) (.tmp (.tmp (.tmp (.tmp .nil))))) rfl ?_
  exact ⟨by first | rfl | (simp [errW_none, errW_some] <;> rfl) | (simp [*, errW_none, errW_some] <;> rfl), by repeat (first | (with_reducible first | exact HB.out | apply below_alloc | apply pw_below_drewN | apply below_drew1) | exact HB.out)⟩
 ·rw [if_neg c4] at H
  have c4b0 : decide (a1 < 0) = false := decide_eq_false c4
  clear c4
  by_cases c6 : a1 ≥ (t170.length : Int)
  ·rw [if_pos c6] at H
   have c6b0 : decide ((t170.length : Int) ≤ a1) = true := decide_eq_true c6
   clear c6
   simp only [Option.some.injEq, Prod.mk.injEq] at H
   obtain ⟨rfl, rfl, rfl, rfl⟩ := H
   go_enter Tryd.func56, Tryd.ntmps56
   go_wp2_with (first | (go_at_call 85; (with_reducible refine (lines_all.calls _ _ l0 t170 _ ?side1 ?side2 A3.out).mono ?_); (case side1 => repeat (first | exact HR0.out | (with_reducible refine Kd.C_alloc ?_ _) | (with_reducible refine Kd.C_drewN ?_ _) | (with_reducible refine Kd.C_drew ?_))); (case side2 => exact HC0.out); rintro e w7 ⟨v171, rfl, ho0, hb⟩; have n0_ := Aside0.mk (Kd.R_lower ho0 (below_size (by repeat (first | (with_reducible first | exact HB.out | apply below_alloc | apply pw_below_drewN | apply below_drew1) | exact HB.out)))); have n1_ := Aside0.mk (below_step (by repeat (first | (with_reducible first | exact HB.out | apply below_alloc | apply pw_below_drewN | apply below_drew1) | exact HB.out)) hb); clear HB; have HO172 := n0_; have HB := n1_; clear n0_ n1_; (try clear hb); (try clear hb2); (try clear hk); (try clear hi); (try clear ho0); obtain ⟨Ao8, co8, eo8⟩ := Kd.R_slice HO172.out; subst eo8))
   repeat (go_quiet (first | (go_at_call 85; (with_reducible refine (lines_all.calls _ _ l0 t170 _ ?side1 ?side2 A3.out).mono ?_); (case side1 => repeat (first | exact HR0.out | (with_reducible refine Kd.C_alloc ?_ _) | (with_reducible refine Kd.C_drewN ?_ _) | (with_reducible refine Kd.C_drew ?_))); (case side2 => exact HC0.out); rintro e w7 ⟨v171, rfl, ho0, hb⟩; have n0_ := Aside0.mk (Kd.R_lower ho0 (below_size (by repeat (first | (with_reducible first | exact HB.out | apply below_alloc | apply pw_below_drewN | apply below_drew1) | exact HB.out)))); have n1_ := Aside0.mk (below_step (by repeat (first | (with_reducible first | exact HB.out | apply below_alloc | apply pw_below_drewN | apply below_drew1) | exact HB.out)) hb); clear HB; have HO172 := n0_; have HB := n1_; clear n0_ n1_; (try clear hb); (try clear hb2); (try clear hk); (try clear hi); (try clear ho0); obtain ⟨Ao8, co8, eo8⟩ := Kd.R_slice HO172.out; subst eo8)); try go_wp2_with (first | (go_at_call 85; (with_reducible refine (lines_all.calls _ _ l0 t170 _ ?side1 ?side2 A3.out).mono ?_); (case side1 => repeat (first | exact HR0.out | (with_reducible refine Kd.C_alloc ?_ _) | (with_reducible refine Kd.C_drewN ?_ _) | (with_reducible refine Kd.C_drew ?_))); (case side2 => exact HC0.out); rintro e w7 ⟨v171, rfl, ho0, hb⟩; have n0_ := Aside0.mk (Kd.R_lower ho0 (below_size (by repeat (first | (with_reducible first | exact HB.out | apply below_alloc | apply pw_below_drewN | apply below_drew1) | exact HB.out)))); have n1_ := Aside0.mk (below_step (by repeat (first | (with_reducible first | exact HB.out | apply below_alloc | apply pw_below_drewN | apply below_drew1) | exact HB.out)) hb); clear HB; have HO172 := n0_; have HB := n1_; clear n0_ n1_; (try clear hb); (try clear hb2); (try clear hk); (try clear hi); (try clear ho0); obtain ⟨Ao8, co8, eo8⟩ := Kd.R_slice HO172.out; subst eo8)))
   refine bodyPost_ret (results_list (rs := [.tmp 4, .tmp 5, .tmp 6, .tmp 7]) rfl (by simp) (.tmp (.tmp (.tmp (.tmp .nil))))) rfl ?_
   exact ⟨by first | rfl | (simp [errW_none, errW_some] <;> rfl) | (simp [*, errW_none, errW_some] <;> rfl), by repeat (first | (with_reducible first | exact HB.out | apply below_alloc | apply pw_below_drewN | apply below_drew1) | exact HB.out)⟩
  ·rw [if_neg c6] at H
   have c6b0 : decide ((t170.length : Int) ≤ a1) = false := decide_eq_false c6
   clear c6
   by_cases c9 : 0 ≤ a1
   ·rw [if_pos c9] at H
    have c9b0 : decide (0 ≤ a1) = true := decide_eq_true c9
    clear c9
    by_cases c10 : a1 < (t170.length : Int)
    ·rw [if_pos c10] at H
     have c10b0 : decide (a1 < (t170.length : Int)) = true := decide_eq_true c10
     clear c10
     simp only [Option.some.injEq, Prod.mk.injEq] at H
     obtain ⟨rfl, rfl, rfl, rfl⟩ := H
     go_enter Tryd.func56, Tryd.ntmps56
     go_wp2_with (first | (go_at_call 85; (with_reducible refine (lines_all.calls _ _ l0 t170 _ ?side1 ?side2 A3.out).mono ?_); (case side1 => repeat (first | exact HR0.out | (with_reducible refine Kd.C_alloc ?_ _) | (with_reducible refine Kd.C_drewN ?_ _) | (with_reducible refine Kd.C_drew ?_))); (case side2 => exact HC0.out); rintro e w11 ⟨v171, rfl, ho0, hb⟩; have n0_ := Aside0.mk (Kd.R_lower ho0 (below_size (by repeat (first | (with_reducible first | exact HB.out | apply below_alloc | apply pw_below_drewN | apply below_drew1) | exact HB.out)))); have n1_ := Aside0.mk (below_step (by repeat (first | (with_reducible first | exact HB.out | apply below_alloc | apply pw_below_drewN | apply below_drew1) | exact HB.out)) hb); clear HB; have HO172 := n0_; have HB := n1_; clear n0_ n1_; (try clear hb); (try clear hb2); (try clear hk); (try clear hi); (try clear ho0); obtain ⟨Ao12, co12, eo12⟩ := Kd.R_slice HO172.out; subst eo12; have p173 : 0 ≤ (a1 : Int) := of_decide_eq_true (by first | (with_reducible assumption) | assumption); have q173 : a1 < (t170.length : Int) := of_decide_eq_true (by first | (with_reducible assumption) | assumption); obtain ⟨ad173, e173, hx173_0, hx173_1, hx173_2, hx173_3⟩ := at_T153 (Kd.R_reads' HO172.out).2.2 a1 p173 q173; cases e173; replace p173 := eq_true p173; replace q173 := eq_true q173; have p174 : 0 ≤ (a1 : Int) := of_decide_eq_true (by first | (with_reducible assumption) | assumption); have q174 : a1 < (t170.length : Int) := of_decide_eq_true (by first | (with_reducible assumption) | assumption); obtain ⟨ad174, e174, hx174_0, hx174_1, hx174_2, hx174_3⟩ := at_T153 (Kd.R_reads' HO172.out).2.2 a1 p174 q174; obtain rfl : ad173 = ad174 := (by injection e174); replace p174 := eq_true p174; replace q174 := eq_true q174; have p175 : 0 ≤ (a1 : Int) := of_decide_eq_true (by first | (with_reducible assumption) | assumption); have q175 : a1 < (t170.length : Int) := of_decide_eq_true (by first | (with_reducible assumption) | assumption); obtain ⟨ad175, e175, hx175_0, hx175_1, hx175_2, hx175_3⟩ := at_T153 (Kd.R_reads' HO172.out).2.2 a1 p175 q175; obtain rfl : ad173 = ad175 := (by injection e175); replace p175 := eq_true p175; replace q175 := eq_true q175))
     repeat (go_quiet (first | (go_at_call 85; (with_reducible refine (lines_all.calls _ _ l0 t170 _ ?side1 ?side2 A3.out).mono ?_); (case side1 => repeat (first | exact HR0.out | (with_reducible refine Kd.C_alloc ?_ _) | (with_reducible refine Kd.C_drewN ?_ _) | (with_reducible refine Kd.C_drew ?_))); (case side2 => exact HC0.out); rintro e w11 ⟨v171, rfl, ho0, hb⟩; have n0_ := Aside0.mk (Kd.R_lower ho0 (below_size (by repeat (first | (with_reducible first | exact HB.out | apply below_alloc | apply pw_below_drewN | apply below_drew1) | exact HB.out)))); have n1_ := Aside0.mk (below_step (by repeat (first | (with_reducible first | exact HB.out | apply below_alloc | apply pw_below_drewN | apply below_drew1) | exact HB.out)) hb); clear HB; have HO172 := n0_; have HB := n1_; clear n0_ n1_; (try clear hb); (try clear hb2); (try clear hk); (try clear hi); (try clear ho0); obtain ⟨Ao12, co12, eo12⟩ := Kd.R_slice HO172.out; subst eo12; have p173 : 0 ≤ (a1 : Int) := of_decide_eq_true (by first | (with_reducible assumption) | assumption); have q173 : a1 < (t170.length : Int) := of_decide_eq_true (by first | (with_reducible assumption) | assumption); obtain ⟨ad173, e173, hx173_0, hx173_1, hx173_2, hx173_3⟩ := at_T153 (Kd.R_reads' HO172.out).2.2 a1 p173 q173; cases e173; replace p173 := eq_true p173; replace q173 := eq_true q173; have p174 : 0 ≤ (a1 : Int) := of_decide_eq_true (by first | (with_reducible assumption) | assumption); have q174 : a1 < (t170.length : Int) := of_decide_eq_true (by first | (with_reducible assumption) | assumption); obtain ⟨ad174, e174, hx174_0, hx174_1, hx174_2, hx174_3⟩ := at_T153 (Kd.R_reads' HO172.out).2.2 a1 p174 q174; obtain rfl : ad173 = ad174 := (by injection e174); replace p174 := eq_true p174; replace q174 := eq_true q174; have p175 : 0 ≤ (a1 : Int) := of_decide_eq_true (by first | (with_reducible assumption) | assumption); have q175 : a1 < (t170.length : Int) := of_decide_eq_true (by first | (with_reducible assumption) | assumption); obtain ⟨ad175, e175, hx175_0, hx175_1, hx175_2, hx175_3⟩ := at_T153 (Kd.R_reads' HO172.out).2.2 a1 p175 q175; obtain rfl : ad173 = ad175 := (by injection e175); replace p175 := eq_true p175; replace q175 := eq_true q175)); try go_wp2_with (first | (go_at_call 85; (with_reducible refine (lines_all.calls _ _ l0 t170 _ ?side1 ?side2 A3.out).mono ?_); (case side1 => repeat (first | exact HR0.out | (with_reducible refine Kd.C_alloc ?_ _) | (with_reducible refine Kd.C_drewN ?_ _) | (with_reducible refine Kd.C_drew ?_))); (case side2 => exact HC0.out); rintro e w11 ⟨v171, rfl, ho0, hb⟩; have n0_ := Aside0.mk (Kd.R_lower ho0 (below_size (by repeat (first | (with_reducible first | exact HB.out | apply below_alloc | apply pw_below_drewN | apply below_drew1) | exact HB.out)))); have n1_ := Aside0.mk (below_step (by repeat (first | (with_reducible first | exact HB.out | apply below_alloc | apply pw_below_drewN | apply below_drew1) | exact HB.out)) hb); clear HB; have HO172 := n0_; have HB := n1_; clear n0_ n1_; (try clear hb); (try clear hb2); (try clear hk); (try clear hi); (try clear ho0); obtain ⟨Ao12, co12, eo12⟩ := Kd.R_slice HO172.out; subst eo12; have p173 : 0 ≤ (a1 : Int) := of_decide_eq_true (by first | (with_reducible assumption) | assumption); have q173 : a1 < (t170.length : Int) := of_decide_eq_true (by first | (with_reducible assumption) | assumption); obtain ⟨ad173, e173, hx173_0, hx173_1, hx173_2, hx173_3⟩ := at_T153 (Kd.R_reads' HO172.out).2.2 a1 p173 q173; cases e173; replace p173 := eq_true p173; replace q173 := eq_true q173; have p174 : 0 ≤ (a1 : Int) := of_decide_eq_true (by first | (with_reducible assumption) | assumption); have q174 : a1 < (t170.length : Int) := of_decide_eq_true (by first | (with_reducible assumption) | assumption); obtain ⟨ad174, e174, hx174_0, hx174_1, hx174_2, hx174_3⟩ := at_T153 (Kd.R_reads' HO172.out).2.2 a1 p174 q174; obtain rfl : ad173 = ad174 := (by injection e174); replace p174 := eq_true p174; replace q174 := eq_true q174; have p175 : 0 ≤ (a1 : Int) := of_decide_eq_true (by first | (with_reducible assumption) | assumption); have q175 : a1 < (t170.length : Int) := of_decide_eq_true (by first | (with_reducible assumption) | assumption); obtain ⟨ad175, e175, hx175_0, hx175_1, hx175_2, hx175_3⟩ := at_T153 (Kd.R_reads' HO172.out).2.2 a1 p175 q175; obtain rfl : ad173 = ad175 := (by injection e175); replace p175 := eq_true p175; replace q175 := eq_true q175)))
     refine bodyPost_ret (results_list (rs := [.tmp 4, .tmp 5, .tmp 6, .tmp 7]) rfl (by simp) (.tmp (.tmp (.tmp (.tmp .nil))))) rfl ?_
     exact ⟨by first | rfl | (simp [errW_none, errW_some] <;> rfl) | (simp [*, errW_none, errW_some] <;> rfl), by repeat (first | (with_reducible first | exact HB.out | apply below_alloc | apply pw_below_drewN | apply below_drew1) | exact HB.out)⟩
    ·rw [if_neg c10] at H
     exact absurd H (by simp)
   ·rw [if_neg c9] at H
    exact absurd H (by simp)

end Go.Proofs.YtijbkiajhicooabDoor.PW

namespace Go.Proofs.YtijbkiajhicooabDoor.PW
open Go.RowKit Go.Proofs.YtijbkiajhicooabDoorW.PrintWords Go.Proofs.YtijbkiajhicooabDoorW.PrintLast Go.Proofs.YtijbkiajhicooabDoorW.PrintMore
attribute [local go_sem] max2_int min2_int max_two min_two max_three min_three max_four min_four   -- for this text's walks alone
set_option linter.unusedVariables false
set_option linter.unusedSimpArgs false

/-- One more step to the right. -/
def colStep (w : Int) (n : Int) (x : PStep) : Int := if x.2.2.2 = true ∧ x.2.1 = 9 then wrap64 (wrap64 (wrap64 (n.tdiv w) + 1) * w) else wrap64 (n + 1)
def colOf (w : Int) (l : List Int) : Int := (allSteps (strOfNums l)).foldl (colStep w) 0
def words_Column.f (l0 : List Int) (a1 a2 : Int) : Option (Int × Int) :=
 (words_outside.f l0 a1).bind fun o => if o = true then some (0, 2) else if a2 < 1 then some (0, 2) else if a2 > 65536 then some (0, 2) else
  (lines_Where.f (l0.length + 10) l0 a1).bind fun x => if x.2.2.2.2.2.2.2 = 0 then
   (lines_Line.f l0 x.2.2.2.1).bind fun y => if 0 ≤ y.1 then if y.1 ≤ mn x.1 y.2.1 then if mn x.1 y.2.1 ≤ (l0.length : Int) then if l0.length ≤ 4398046511104 then
    some (colOf a2 ((l0.take (mn x.1 y.2.1).toNat).drop y.1.toNat), 0) else none else none else none else none
  else some (0, x.2.2.2.2.2.2.2)
attribute [local go_sem] Oper.semAt_some
set_option maxRecDepth 100000 in
set_option maxHeartbeats 4000000 in
theorem words_Column.bad (A0 : Option Addr) (c0 : Nat) (l0 : List Int) (a1 a2 : Int) (o : Bool) (w : World) (hr0 : Kd.C (Kd.int .u8) w A0 l0.length l0) (hc0 : l0.length ≤ c0) (ho : words_outside.f l0 a1 = some o) (h : o = true ∨ a2 < 1 ∨ a2 > 65536) :
  Calls Tryd.prog 26 #[.slice A0 l0.length c0, .int .i64 a1, .int .i64 a2] w fun e w' => e = .returned (.tuple #[.int .i64 0, .int .i64 2]) ∧ Below w.heap.size w w' := by
 have HR := Aside0.mk (Kd.C_alloc hr0 (.cells #[.int .i64 a2] 3))
 have HO := Aside0.mk ho
 have hB : Below w.heap.size w (w.alloc (.cells #[.int .i64 a2] 3)) := (Below.refl _ w).alloc (Nat.le_refl _) _
 clear hr0 ho
 cases o with
 | true =>
  go_enter Tryd.func26, Tryd.ntmps26
  go_wp2_with (go_at_call 51; refine (words_outside.calls A0 c0 l0 a1 true _ HR.out hc0 HO.out).mono ?_; rintro e w' ⟨rfl, ⟨nd, rfl⟩⟩)
  go_ret2
  exact ⟨rfl, pw_below_drewN hB _⟩
 | false =>
  simp only [Bool.false_eq_true, false_or] at h
  by_cases h1 : a2 < 1
  ·have hb : decide (a2 < 1) = true := decide_eq_true h1
   clear h
   go_enter Tryd.func26, Tryd.ntmps26
   go_wp2_with (go_at_call 51; refine (words_outside.calls A0 c0 l0 a1 false _ HR.out hc0 HO.out).mono ?_; rintro e w' ⟨rfl, ⟨nd, rfl⟩⟩)
   go_ret2
   exact ⟨rfl, pw_below_drewN hB _⟩
  ·have hb : decide (a2 < 1) = false := decide_eq_false h1
   have hb2 : decide (a2 > 65536) = true := decide_eq_true (by omega)
   have hb3 : decide (65536 < a2) = true := decide_eq_true (by omega)
   clear h
   go_enter Tryd.func26, Tryd.ntmps26
   go_wp2_with (go_at_call 51; refine (words_outside.calls A0 c0 l0 a1 false _ HR.out hc0 HO.out).mono ?_; rintro e w' ⟨rfl, ⟨nd, rfl⟩⟩)
   go_ret2
   exact ⟨rfl, pw_below_drewN hB _⟩
/-- How a round of the loop is left. -/
def ColPost (B : Nat) (Kp : World → World → Prop) (I : World → Prop) (W : World) : Exit → Act → World → Prop := fun e _ W2 => e = .normal ∧ KeepsFrom B W W2 ∧ Kp W W2 ∧ I W2
theorem colPost_of (w : World) (B Bs g : Nat) (s : ByteArray) (a2 nn v : Int) (V X : World) (a' : Act) (hX : KeepsOthers V X) (hbX : Below w.heap.size V X) (hB : Below w.heap.size w V) (hs : V.heap[Bs]? = some (.cells #[.string s] 9 (0, 0))) (hw : V.heap[w.heap.size]? = some (.cells #[.int .i64 a2] 3 (0, 0)))
  (hn : V.heap[g]? = some (.cells #[.int .i64 nn] 3 (0, 0))) (hh : X.heap = V.heap) (hne : Bs ≠ g) (hne2 : w.heap.size ≠ g) (hg : w.heap.size ≤ g) :
  ColPost B (KpBox w.heap.size Bs) (fun V2 => (Below w.heap.size w V2 ∧ V2.heap[Bs]? = some (.cells #[.string s] 9 (0, 0))) ∧ V2.heap[w.heap.size]? = some (.cells #[.int .i64 a2] 3 (0, 0)) ∧ V2.heap[g]? = some (.cells #[.int .i64 v] 3 (0, 0))) V .normal a' (X.setCell ⟨g, 0, none⟩ (.int .i64 v)) := by
 have hs' : X.heap[Bs]? = some (.cells #[.string s] 9 (0, 0)) := by rw [hh]; exact hs
 have hw' : X.heap[w.heap.size]? = some (.cells #[.int .i64 a2] 3 (0, 0)) := by rw [hh]; exact hw
 have hn' : X.heap[g]? = some (.cells #[.int .i64 nn] 3 (0, 0)) := by rw [hh]; exact hn
 have hk : KeepsOthers V (X.setCell ⟨g, 0, none⟩ (.int .i64 v)) := hX.trans (KeepsOthers.setCell _ _ _)
 have hb := hbX.setCell (p := ⟨g, 0, none⟩) hg (.int .i64 v)
 have hs2 := blk_far hs' (p := ⟨g, 0, none⟩) hne (.int .i64 v)
 exact ⟨rfl, hk.from _, KpBox.of hb (hs2.trans hs.symm) hk, ⟨hB.trans hb, hs2⟩, blk_far hw' (p := ⟨g, 0, none⟩) hne2 _, blk_set hn' 0 _⟩
set_option maxRecDepth 100000 in
set_option maxHeartbeats 4000000 in
theorem words_Column.err (A0 : Option Addr) (c0 : Nat) (l0 : List Int) (a1 a2 : Int) (r1 r2 r3 r4 r5 r6 r7 r8 : Int) (w : World) (hr0 : Kd.C (Kd.int .u8) w A0 l0.length l0) (hc0 : l0.length ≤ c0) (hL : LaidBad w) (ho : words_outside.f l0 a1 = some false) (h1 : 1 ≤ a2) (h2 : a2 ≤ 65536)
  (hw : lines_Where.f (l0.length + 10) l0 a1 = some (r1, r2, r3, r4, r5, r6, r7, r8)) (he : r8 ≠ 0) :
  Calls Tryd.prog 26 #[.slice A0 l0.length c0, .int .i64 a1, .int .i64 a2] w fun e w' => e = .returned (.tuple #[.int .i64 0, .int .i64 r8]) ∧ Below w.heap.size w w' := by
 have HR := Aside0.mk (Kd.C_alloc hr0 (.cells #[.int .i64 a2] 3))
 have HO := Aside0.mk ho
 have HW := Aside0.mk hw
 have hB : Below w.heap.size w (w.alloc (.cells #[.int .i64 a2] 3)) := (Below.refl _ w).alloc (Nat.le_refl _) _
 have HL := Aside0.mk (laid_below hL hB)
 have hb : decide (a2 < 1) = false := decide_eq_false (by omega)
 have hb2 : decide (a2 > 65536) = false := decide_eq_false (by omega)
 have hb3 : decide (65536 < a2) = false := decide_eq_false (by omega)
 have heb : (r8 != 0) = true := by simpa using he
 clear hr0 ho hw he hL
 go_enter Tryd.func26, Tryd.ntmps26
 go_wp2_with (go_at_call 51; refine (words_outside.calls A0 c0 l0 a1 false _ HR.out hc0 HO.out).mono ?_; rintro e w' ⟨rfl, ⟨nd, rfl⟩⟩)
 refine (lines_Where.calls _ A0 c0 l0 a1 r1 r2 r3 r4 r5 r6 r7 r8 _ (Kd.C_drewN HR.out _) hc0 (laid_below HL.out (pw_below_drewN (Below.refl _ _) _)) HW.out).mono ?_
 rintro e w' ⟨rfl, hb5⟩
 have hu := Tryd.underlying114
 go_wp2
 go_ret2
 exact ⟨rfl, ((pw_below_drewN hB nd).trans (hb5.mono (pw_below_drewN hB nd).size)).alloc (by have := hb5.size; simp at this; omega) _⟩
set_option maxRecDepth 100000 in
set_option maxHeartbeats 4000000 in
theorem words_Column.walk (A0 : Option Addr) (c0 : Nat) (l0 : List Int) (a1 a2 : Int) (p r2 r3 ln r5 r6 r7 s ct y3 y4 : Int) (w : World) (hr0 : Kd.C (Kd.int .u8) w A0 l0.length l0) (hc0 : l0.length ≤ c0) (hL : LaidBad w) (ho : words_outside.f l0 a1 = some false) (h1 : 1 ≤ a2) (h2 : a2 ≤ 65536)
  (hw : lines_Where.f (l0.length + 10) l0 a1 = some (p, r2, r3, ln, r5, r6, r7, 0)) (hl : lines_Line.f l0 ln = some (s, ct, y3, y4)) (m : Int) (hm : mn p ct = m) (g0 : 0 ≤ s) (g1 : s ≤ m) (g2 : m ≤ (l0.length : Int)) (hlim : l0.length ≤ 4398046511104) :
  CallsIn Fence.wide 10 Tryd.prog 26 #[.slice A0 l0.length c0, .int .i64 a1, .int .i64 a2] w fun e w' => e = .returned (.tuple #[.int .i64 (colOf a2 ((l0.take m.toNat).drop s.toNat)), .int .i64 0]) ∧ Below w.heap.size w w' := by
 refine callsIn_of_wp_marks Tryd.func26 rfl trivial ?_ rfl
 have hu := Tryd.underlying114
 have HR := Aside0.mk (Kd.C_alloc hr0 (.cells #[.int .i64 a2] 3))
 have HR0 := Aside0.mk hr0
 have HO := Aside0.mk ho
 have HW := Aside0.mk hw
 have HLN := Aside0.mk hl
 have hB : Below w.heap.size w (w.alloc (.cells #[.int .i64 a2] 3)) := (Below.refl _ w).alloc (Nat.le_refl _) _
 have HBa := Aside0.mk hB
 have HL := Aside0.mk (laid_below hL hB)
 have HL0 := Aside0.mk hL
 have HG1 := Aside0.mk (blk_new w (.cells #[.int .i64 a2] 3))
 have hb : decide (a2 < 1) = false := decide_eq_false (by omega)
 have hb2 : decide (a2 > 65536) = false := decide_eq_false (by omega)
 have hb3 : decide (65536 < a2) = false := decide_eq_false (by omega)
 obtain ⟨i0, hi0, _, hsz0, _⟩ := info_parts info5
 obtain ⟨A9, hcut, hA9, hC9⟩ := print_mid_of (P := Tryd.prog) (Value.int .u8) 0 22 5 .i64 .i64 Tryd.underlying22 hi0 hsz0 A0 c0 l0 s m g0 g1 g2 hc0
 have HR9 := Aside0.mk (Kd.C_of_reads (h1 := fun _ => rfl) (hA9 _ (Kd.reads_of_C hr0)))
 have HC9 := Aside0.mk hC9
 have hm_ : (if ct < p then ct else p) = m := hm
 have hll : ((l0.take m.toNat).drop s.toNat).length ≤ l0.length := by simp; omega
 have HLL := Aside0.mk hll
 clear hr0 ho hw hL hl hi0 hsz0 hB hA9 hC9 hm hll
 replace g0 := eq_true g0
 replace g1 := eq_true g1
 replace g2 := eq_true g2
 generalize (l0.take m.toNat).drop s.toNat = l9 at *
 simp only [Tryd.ntmps26, List.size_toArray, List.length_cons, List.length_nil, Nat.reduceAdd, Nat.reduceSub, Array.replicate_succ, Array.replicate_zero, List.push_toArray, List.append_toArray, List.nil_append, List.cons_append]
 gi_wp2_with (fail)
 refine ⟨trivial, ?_⟩
 gi_at_call 51
 refine (callsIn_wide.2 (words_outside.calls A0 c0 l0 a1 false _ HR.out hc0 HO.out)).mono ?_
 rintro e w' ⟨rfl, ⟨nd, rfl⟩⟩
 have c0w := blk_cell (blk_drewN HG1.out nd) 0
 gi_wp2_with (fail)
 refine ⟨trivial, ?_⟩
 gi_at_call 55
 refine (callsIn_wide.2 (lines_Where.calls _ A0 c0 l0 a1 p r2 r3 ln r5 r6 r7 0 _ (Kd.C_drewN HR.out _) hc0 (laid_below HL.out (pw_below_drewN (Below.refl _ _) _)) HW.out)).mono ?_
 rintro e w5 ⟨rfl, hb5⟩
 have HB5 := Aside0.mk ((pw_below_drewN HBa.out nd).trans (hb5.mono (pw_below_drewN HBa.out nd).size))
 have HG5 := Aside0.mk (blk_below (blk_drewN HG1.out nd) hb5)
 have hs5 : w.heap.size + 1 ≤ w5.heap.size := by have := hb5.size; simpa using this
 clear hb5 c0w HG1 HBa HL HR
 have c5 := blk_cell HG5.out 0
 gi_wp2_with (fail)
 refine ⟨trivial, ?_⟩
 gi_at_call 56
 refine (callsIn_wide.2 (lines_Line.calls A0 c0 l0 ln s ct y3 y4 _ (Kd.C_below HR0.out (HB5.out.alloc HB5.out.size _)) hc0 HLN.out)).mono ?_
 rintro e w6 ⟨rfl, hb6⟩
 have HB6 := Aside0.mk ((HB5.out.alloc HB5.out.size (.cells #[.int .i64 p, .int .i64 r2, .int .i64 r3, .int .i64 ln, .int .i64 r5, .int .i64 r6, .int .i64 r7] 114)).trans (hb6.mono (HB5.out.alloc HB5.out.size _).size))
 have HG6 := Aside0.mk (blk_below (blk_alloc HG5.out _) hb6)
 have hg8 := blk_below (blk_new w5 (.cells #[.int .i64 p, .int .i64 r2, .int .i64 r3, .int .i64 ln, .int .i64 r5, .int .i64 r6, .int .i64 r7] 114)) hb6
 have hs6 : w5.heap.size + 1 ≤ w6.heap.size := by have := hb6.size; simpa using this
 have c8 := blk_cell (blk_alloc hg8 (.cells #[.int .i64 0] 3)) 0
 have hcutS := hcut
 clear hb6 hg8 c5 hb hb2 hb3
 have HR6 := Aside0.mk (Kd.C_below HR9.out (HB6.out.alloc HB6.out.size (.cells #[.int .i64 0] 3)))
 gi_wp2_with (refine ⟨trivial, ?_⟩; gi_at_call 57; refine (callsIn_wide.2 (step_All.calls A9 (c0 - s.toNat) l9 _ HR6.out HC9.out)).mono ?_; rintro e w' ⟨rfl, rfl⟩)
 obtain ⟨W1, hW1⟩ : ∃ W1, (w6.alloc (.cells #[.int .i64 0] 3)).alloc (.cells #[.string (strOfNums l9)] 9) = W1 := ⟨_, rfl⟩
 have hb1 : W1.heap[w.heap.size]? = some (.cells #[.int .i64 a2] 3 (0, 0)) := by rw [← hW1]; exact blk_alloc (blk_alloc HG6.out _) _
 have hn1 : W1.heap[w6.heap.size]? = some (.cells #[.int .i64 0] 3 (0, 0)) := by rw [← hW1]; exact blk_alloc (blk_new w6 _) _
 have bs1 : W1.heap[w6.heap.size + 1]? = some (.cells #[.string (strOfNums l9)] 9 (0, 0)) := by
  rw [← hW1]; have := blk_new (w6.alloc (.cells #[.int .i64 0] 3)) (.cells #[.string (strOfNums l9)] 9); rwa [World.size_alloc] at this
 have hB1 : Below w.heap.size w W1 := by rw [← hW1]; exact (HB6.out.alloc HB6.out.size _).alloc (by have := HB6.out.size; simp; omega) _
 have hs1 : W1.heap.size = w6.heap.size + 2 := by rw [← hW1]; simp
 have hL1 := laid_below HL0.out hB1
 have hpos : 0 < w.heap.size := laid_lt HL0.out
 have hns : (strOfNums l9).size ≤ 4398046511104 := by rw [strOfNums_size]; exact Nat.le_trans HLL.out hlim
 rw [hW1]
 clear hW1 c8 HR6 HR9 HR0 HC9 hcut hcutS g0 g1 g2 hm_
 have hs6w := HB6.out.size
 refine wpIn_rangeFunc_ownH rfl (by decide) (gf := 88) (lb := #[.pointer (some ⟨w6.heap.size + 1, 0, none⟩)]) rfl trivial (enters_of Tryd.func88 (by kernel_rfl) rfl)
  (step_All1.stops (10 - 1) (w6.heap.size + 1) w.heap.size (by decide) (strOfNums l9) (by omega) hpos W1 bs1 hB1.size hL1) KpBox.t (KpBox.b hB1.size (by omega)) (Below.refl _ _) (fun _ => rfl)
  (fun pre V => (Below w.heap.size w V ∧ V.heap[w6.heap.size + 1]? = some (.cells #[.string (strOfNums l9)] 9 (0, 0))) ∧ V.heap[w.heap.size]? = some (.cells #[.int .i64 a2] 3 (0, 0)) ∧
   V.heap[w6.heap.size]? = some (.cells #[.int .i64 (pre.foldl (colStep a2) 0)] 3 (0, 0)))
  (fun _ _ _ => False)
  (fun s X Y row hs hg hr => ⟨⟨ownFrom_below (Nat.le_refl _) hB1.size s X Y row hs.1.1 hg hr, blk_abides hs.1.2 hg (fun r e => (hr r e).2)⟩, blk_abides hs.2.1 hg (fun r e => (hr r e).2), blk_abides hs.2.2 hg (fun r e => (hr r e).2)⟩)
  (fun _ _ _ _ _ hs _ _ => hs)
  ⟨⟨hB1, bs1⟩, hb1, hn1⟩
  (fun x a' V => ∃ Bx, W1.heap.size ≤ Bx ∧ V.heap[Bx]? = some (.cells #[.int .i32 x.2.1, .int .i64 x.2.2.1, .bool x.2.2.2] 50 (0, 0)) ∧ a' = { tmps := #[.slice A0 l0.length c0, .int .i64 a1, .int .i64 a2, undef, undef, .pointer (some ⟨w.heap.size, 0, none⟩), .int .i64 0, .int .i64 0, .pointer (some ⟨w5.heap.size, 0, none⟩), .int .i64 0, .int .i64 s, .int .i64 ct, .int .i64 y3, .int .i64 y4, .pointer (some ⟨w6.heap.size, 0, none⟩), undef, .pointer (some ⟨Bx, 0, none⟩), .slice A0 l0.length c0, .int .i64 a1, .bool false, .bool false, .int .i64 a2, .bool false, .bool false, .bool false, .int .i64 a2, .bool false, .bool false, (.tuple #[.agg #[.int .i64 p, .int .i64 r2, .int .i64 r3, .int .i64 ln, .int .i64 r5, .int .i64 r6, .int .i64 r7], .int .i64 0]), .slice A0 l0.length c0, .int .i64 a1, (.tuple #[.agg #[.int .i64 p, .int .i64 r2, .int .i64 r3, .int .i64 ln, .int .i64 r5, .int .i64 r6, .int .i64 r7], .int .i64 0]), (.agg #[.int .i64 p, .int .i64 r2, .int .i64 r3, .int .i64 ln, .int .i64 r5, .int .i64 r6, .int .i64 r7]), .int .i64 0, .int .i64 0, .bool false, undef, (.tuple #[.int .i64 s, .int .i64 ct, .int .i64 y3, .int .i64 y4]), .slice A0 l0.length c0, .pointer (some ⟨w5.heap.size, 3, none⟩), .int .i64 ln, (.tuple #[.int .i64 s, .int .i64 ct, .int .i64 y3, .int .i64 y4]), .int .i64 s, .int .i64 ct, .int .i64 y3, .int .i64 y4, .slice A0 l0.length c0, .int .i64 s, .pointer (some ⟨w5.heap.size, 0, none⟩), .int .i64 p, .int .i64 ct, .int .i64 m, .slice A9 l9.length (c0 - s.toNat), .func (.func 88) #[] #[.pointer (some ⟨w6.heap.size + 1, 0, none⟩)], .int .i64 x.1, .agg #[.int .i32 x.2.1, .int .i64 x.2.2.1, .bool x.2.2.2], undef, undef, undef, undef, undef, undef, undef, undef, undef, undef, undef, undef, undef, undef, undef, undef], defers := [] })
  (fun x a' _ X Y row hs hg hr => by obtain ⟨Bx, h1, h2, h3⟩ := hs; exact ⟨Bx, h1, blk_abides h2 hg (fun r e => (hr r e).2), h3⟩)
  ?assign ?body ?done ?stop
 case assign =>
  rintro l' pre x V K ⟨⟨hB, hbs⟩, hb, hn⟩ hK
  gi_wp2
  have hlt := blk_lt hbs
  exact hK _ _ ((KeepsOthers.alloc _ _).from _) (KpBox.of ((Below.refl _ V).alloc hB.size _) ((blk_alloc hbs _).trans hbs.symm) (KeepsOthers.alloc _ _)) ⟨⟨hB.alloc hB.size _, blk_alloc hbs _⟩, blk_alloc hb _, blk_alloc hn _⟩ ⟨V.heap.size, by omega, blk_new V _, rfl⟩
 case body =>
  rintro l' pre x a' V hl' ⟨r, hr⟩ ⟨⟨hB, hbs⟩, hb, hn⟩ ⟨Bx, hBx, hbx, rfl⟩ hlen
  obtain ⟨xp, xr, xw, xb⟩ := x
  dsimp only at hbx ⊢
  refine wpIn_mono (Q := ColPost W1.heap.size (KpBox w.heap.size (w6.heap.size + 1)) (fun V2 => (Below w.heap.size w V2 ∧ V2.heap[w6.heap.size + 1]? = some (.cells #[.string (strOfNums l9)] 9 (0, 0))) ∧ V2.heap[w.heap.size]? = some (.cells #[.int .i64 a2] 3 (0, 0)) ∧
   V2.heap[w6.heap.size]? = some (.cells #[.int .i64 (colStep a2 (pre.foldl (colStep a2) 0) (xp, xr, xw, xb))] 3 (0, 0))) V) ?walk ?post
  case post =>
   rintro e a9 V2 ⟨rfl, g1, g2, g3⟩
   exact ⟨g1, g2, g3.1, g3.2.1, by rw [List.foldl_append]; exact g3.2.2⟩
  generalize pre.foldl (colStep a2) 0 = nn at *
  have cb := blk_cell hb 0
  have cn := blk_cell hn 0
  have fn0 := blk_frozen hn 0
  have cx0 := blk_cell hbx 0
  have cx1 := blk_cell hbx 1
  have cx2 := blk_cell hbx 2
  have hne : ¬ a2 = 0 := by omega
  have hmx : Tryd.prog.follows .mixedOrders = true := by kernel_rfl
  have HSB := Aside0.mk hbs
  have HSW := Aside0.mk hb
  have HSN := Aside0.mk hn
  have hlt := blk_lt hbs
  have hw0 := blk_lt hb
  clear hbs hb hbx hr
  cases xb with
  | false =>
   have hst : colStep a2 nn (xp, xr, xw, false) = wrap64 (nn + 1) := by simp [colStep]
   rw [hst]
   clear hst
   gi_wp2
   exact colPost_of w _ _ _ _ _ nn _ V V _ (KeepsOthers.refl _) (Below.refl _ _) hB HSB.out HSW.out HSN.out rfl (by omega) (by omega) (by omega)
  | true =>
   by_cases hx : xr = 9
   ·have hst : colStep a2 nn (xp, xr, xw, true) = wrap64 (wrap64 (wrap64 (nn.tdiv a2) + 1) * a2) := by simp [colStep, hx]
    rw [hst]
    clear hst
    have hxb : (xr == 9) = true := by simpa using hx
    gi_wp2
    gi_region_with_o (skip)
    all_goals gi_wp2
    all_goals simp only [i64_w]
    all_goals exact (show (V.drew.setCell ⟨w6.heap.size, 0, none⟩ (.int .i64 (wrap64 (wrap64 (wrap64 (nn.tdiv a2) + 1) * a2)))) = (V.setCell ⟨w6.heap.size, 0, none⟩ (.int .i64 (wrap64 (wrap64 (wrap64 (nn.tdiv a2) + 1) * a2)))).drew from rfl) ▸ colPost_of w _ _ _ _ _ nn _ V V.drew _ (KeepsOthers.drew _) ((Below.refl _ _).drew) hB HSB.out HSW.out HSN.out rfl (by omega) (by omega) (by omega)
   ·have hst : colStep a2 nn (xp, xr, xw, true) = wrap64 (nn + 1) := by simp [colStep, hx]
    rw [hst]
    clear hst
    have hxb : (xr == 9) = false := by simpa using hx
    gi_wp2
    exact colPost_of w _ _ _ _ _ nn _ V V _ (KeepsOthers.refl _) (Below.refl _ _) hB HSB.out HSW.out HSN.out rfl (by omega) (by omega) (by omega)
 case done =>
  rintro D zs V hD rfl ⟨⟨hB, hbs⟩, hb, hn⟩ hK
  have cn := blk_cell hn 0
  gi_wp2
  refine ⟨by simp, .inl ⟨_, _, rfl, run_takeDeferred hK, ?_⟩⟩
  exact ⟨_, results_tmp2 rfl _ _ _, rfl, hB.trans (belowK_b (w := w) (Nat.le_refl _) V D _ _ (by omega) hK rfl rfl)⟩
 case stop =>
  rintro D c pre W _ _ h _
  exact h.elim

theorem words_Column.calls (A0 : Option Addr) (c0 : Nat) (l0 : List Int) (a1 a2 : Int) (r1 r2 : Int) (w : World) (hr0 : Kd.C (Kd.int .u8) w A0 l0.length l0) (hc0 : l0.length ≤ c0) (hL : LaidBad w) (h : words_Column.f l0 a1 a2 = some (r1, r2)) :
  Calls Tryd.prog 26 #[.slice A0 l0.length c0, .int .i64 a1, .int .i64 a2] w fun e w' => e = .returned (.tuple #[.int .i64 r1, .int .i64 r2]) ∧ Below w.heap.size w w' := by
 unfold words_Column.f at h
 obtain ⟨o, ho, h⟩ := Option.bind_eq_some_iff.mp h
 by_cases h0 : o = true
 ·rw [if_pos h0] at h
  cases h
  exact words_Column.bad A0 c0 l0 a1 a2 o w hr0 hc0 ho (.inl h0)
 rw [if_neg h0] at h
 by_cases h1 : a2 < 1
 ·rw [if_pos h1] at h
  cases h
  exact words_Column.bad A0 c0 l0 a1 a2 o w hr0 hc0 ho (.inr (.inl h1))
 rw [if_neg h1] at h
 by_cases h2 : a2 > 65536
 ·rw [if_pos h2] at h
  cases h
  exact words_Column.bad A0 c0 l0 a1 a2 o w hr0 hc0 ho (.inr (.inr h2))
 rw [if_neg h2] at h
 obtain rfl : o = false := by simpa using h0
 obtain ⟨⟨p, r2', r3, ln, r5, r6, r7, r8⟩, hw, h⟩ := Option.bind_eq_some_iff.mp h
 dsimp only at h
 by_cases he : r8 = 0
 ·rw [if_pos he] at h
  subst he
  obtain ⟨⟨s, ct, y3, y4⟩, hl, h⟩ := Option.bind_eq_some_iff.mp h
  dsimp only at h
  by_cases g0 : 0 ≤ s
  ·rw [if_pos g0] at h
   by_cases g1 : s ≤ mn p ct
   ·rw [if_pos g1] at h
    by_cases g2 : mn p ct ≤ (l0.length : Int)
    ·rw [if_pos g2] at h
     by_cases g3 : l0.length ≤ 4398046511104
     ·rw [if_pos g3] at h
      cases h
      exact callsIn_wide.1 (words_Column.walk A0 c0 l0 a1 a2 p r2' r3 ln r5 r6 r7 s ct y3 y4 w hr0 hc0 hL ho (by omega) (by omega) hw hl _ rfl g0 g1 g2 g3)
     ·rw [if_neg g3] at h
      cases h
    ·rw [if_neg g2] at h
     cases h
   ·rw [if_neg g1] at h
    cases h
  ·rw [if_neg g0] at h
   cases h
 ·rw [if_neg he] at h
  cases h
  exact words_Column.err A0 c0 l0 a1 a2 p r2' r3 ln r5 r6 r7 _ w hr0 hc0 hL ho (by omega) (by omega) hw he

end Go.Proofs.YtijbkiajhicooabDoor.PW

namespace Go.Proofs.YtijbkiajhicooabDoor.PW
open Go.RowKit Go.Proofs.YtijbkiajhicooabDoorW.PrintWords Go.Proofs.YtijbkiajhicooabDoorW.PrintLast Go.Proofs.YtijbkiajhicooabDoorW.PrintMore
attribute [local go_sem] max2_int min2_int max_two min_two max_three min_three max_four min_four   -- for this text's walks alone
set_option linter.unusedVariables false
set_option linter.unusedSimpArgs false

mutual
def words_Kind.j0 : Nat → Int → Bool → Option (Int)
 | 0, _, _ => none
 | k + 1, x3, x16 => if x16 = true then (some 2) else (if x3 ≥ 48 then (if x3 ≤ 57 then (words_Kind.j1 k x3 true) else (words_Kind.j1 k x3 (x3 == 95))) else (words_Kind.j1 k x3 (x3 == 95)))
def words_Kind.j1 : Nat → Int → Bool → Option (Int)
 | 0, _, _ => none
 | k + 1, x3, x23 => if x23 = true then (some 3) else (if x3 ≥ 65 then (if x3 ≤ 90 then (words_Kind.j2 k x3 true) else (if x3 ≥ 97 then (words_Kind.j2 k x3 (decide (x3 ≤ 122))) else (words_Kind.j2 k x3 false))) else (if x3 ≥ 97 then (words_Kind.j2 k x3 (decide (x3 ≤ 122))) else (words_Kind.j2 k x3 false)))
def words_Kind.j2 : Nat → Int → Bool → Option (Int)
 | 0, _, _ => none
 | k + 1, x3, x34 => if x34 = true then (some 3) else (if x3 ≥ 128 then (some 3) else (some 4))
end
def words_Kind.f (k : Nat) (a0_0 : Int) (a0_1 : Int) (a0_2 : Bool) : Option (Int) := if a0_2 = true then (if a0_0 = 32 then (some 1) else (if a0_0 = 9 then (some 1) else (if a0_0 = 10 then (words_Kind.j0 k a0_0 true) else (words_Kind.j0 k a0_0 (a0_0 == 13))))) else (some 5)
set_option maxHeartbeats 8000000 in
set_option maxRecDepth 100000 in
theorem words_Kind.calls (k : Nat) (a0_0 : Int) (a0_1 : Int) (a0_2 : Bool) (r : Int) (w : World) (h : words_Kind.f k a0_0 a0_1 a0_2 = some r) :
  Calls Tryd.prog 23 #[.agg #[.int .i32 a0_0, .int .i64 a0_1, .bool a0_2]] w fun e w' => e = .returned (.int .i64 r) ∧ Below w.heap.size w w' := by
 have hu50 := Tryd.underlying50
 have HB := Aside0.mk (Below.refl w.heap.size w)
 have H : (if a0_2 = true then (if a0_0 = 32 then (some 1) else (if a0_0 = 9 then (some 1) else (if a0_0 = 10 then (words_Kind.j0 k a0_0 true) else (words_Kind.j0 k a0_0 (a0_0 == 13))))) else (some 5)) = some r := h
 clear h
 by_cases c2 : a0_2 = true
 ·subst c2
  have H1 : (if a0_0 = 32 then (some 1) else (if a0_0 = 9 then (some 1) else (if a0_0 = 10 then (words_Kind.j0 k a0_0 true) else (words_Kind.j0 k a0_0 (a0_0 == 13))))) = some r := by rw [if_pos rfl] at H; exact H
  clear H
  have H := H1
  clear H1
  by_cases c3 : a0_0 = 32
  ·rw [if_pos c3] at H
   have c3b0 : (a0_0 == 32) = true := beq_iff_eq.mpr c3
   have c3b1 : (a0_0 != 32) = false := bne_eq_false_iff_eq.mpr c3
   clear c3
   obtain rfl := Option.some.inj H
   go_enter Tryd.func23, Tryd.ntmps23
   go_wp2_with (first | ((with_reducible refine gate_dst (N := 1) rfl ?_); refine box_event ?hg (N := 1) ?hd (cs := #[.int .i32 a0_0, .int .i64 a0_1, .bool true]) (t := 50) ?hr ?_; (case hd => rfl); (case hg => rfl); (case hr => first | (go_simp; done) | (go_simp; rfl)); intro gb122 hg w4 hbox hb; have n0_ := Aside0.mk (below_step (by repeat (first | (with_reducible first | exact HB.out | apply below_alloc | apply pw_below_drewN | apply below_drew1) | exact HB.out)) hb); have n1_ := Aside0.mk (hbox); have n2_ := Aside0.mk ((by rw [hg]; exact (below_size (by repeat (first | (with_reducible first | exact HB.out | apply below_alloc | apply pw_below_drewN | apply below_drew1) | exact HB.out))) : w.heap.size ≤ gb122)); have n3_ := Aside0.mk ((by rw [hg]; exact (below_size (by repeat (first | (with_reducible first | exact HB.out | apply below_alloc | apply pw_below_drewN | apply below_drew1) | exact HB.out))) : w.heap.size ≤ gb122)); clear HB; have HB := n0_; have BK122 := n1_; have GW122 := n2_; have GE122 := n3_; clear n0_ n1_ n2_ n3_; clear hb hbox hg; have hcz5_0 : w4.cell? ⟨gb122, 0, none⟩ = some (.int .i32 a0_0) := (blk_cell BK122.out 0).trans rfl; have hcz5_1 : w4.cell? ⟨gb122, 1, none⟩ = some (.int .i64 a0_1) := (blk_cell BK122.out 1).trans rfl; have hcz5_2 : w4.cell? ⟨gb122, 2, none⟩ = some (.bool true) := (blk_cell BK122.out 2).trans rfl; have hfz5_0 := blk_frozen BK122.out 0; have hfz5_1 := blk_frozen BK122.out 1; have hfz5_2 := blk_frozen BK122.out 2))
   go_ret
   exact ⟨by first | rfl | (simp [errW_none, errW_some] <;> rfl) | (simp [*, errW_none, errW_some] <;> rfl), by repeat (first | (with_reducible first | exact HB.out | apply below_alloc | apply pw_below_drewN | apply below_drew1 | refine below_set ?_ GE122.out) | exact HB.out)⟩
  ·rw [if_neg c3] at H
   have c3b0 : (a0_0 == 32) = false := beq_eq_false_iff_ne.mpr c3
   have c3b1 : (a0_0 != 32) = true := bne_iff_ne.mpr c3
   by_cases c6 : a0_0 = 9
   ·rw [if_pos c6] at H
    have c6b0 : (a0_0 == 9) = true := beq_iff_eq.mpr c6
    have c6b1 : (a0_0 != 9) = false := bne_eq_false_iff_eq.mpr c6
    clear c6
    obtain rfl := Option.some.inj H
    go_enter Tryd.func23, Tryd.ntmps23
    go_wp2_with (first | ((with_reducible refine gate_dst (N := 1) rfl ?_); refine box_event ?hg (N := 1) ?hd (cs := #[.int .i32 a0_0, .int .i64 a0_1, .bool true]) (t := 50) ?hr ?_; (case hd => rfl); (case hg => rfl); (case hr => first | (go_simp; done) | (go_simp; rfl)); intro gb122 hg w7 hbox hb; have n0_ := Aside0.mk (below_step (by repeat (first | (with_reducible first | exact HB.out | apply below_alloc | apply pw_below_drewN | apply below_drew1) | exact HB.out)) hb); have n1_ := Aside0.mk (hbox); have n2_ := Aside0.mk ((by rw [hg]; exact (below_size (by repeat (first | (with_reducible first | exact HB.out | apply below_alloc | apply pw_below_drewN | apply below_drew1) | exact HB.out))) : w.heap.size ≤ gb122)); have n3_ := Aside0.mk ((by rw [hg]; exact (below_size (by repeat (first | (with_reducible first | exact HB.out | apply below_alloc | apply pw_below_drewN | apply below_drew1) | exact HB.out))) : w.heap.size ≤ gb122)); clear HB; have HB := n0_; have BK122 := n1_; have GW122 := n2_; have GE122 := n3_; clear n0_ n1_ n2_ n3_; clear hb hbox hg; have hcz8_0 : w7.cell? ⟨gb122, 0, none⟩ = some (.int .i32 a0_0) := (blk_cell BK122.out 0).trans rfl; have hcz8_1 : w7.cell? ⟨gb122, 1, none⟩ = some (.int .i64 a0_1) := (blk_cell BK122.out 1).trans rfl; have hcz8_2 : w7.cell? ⟨gb122, 2, none⟩ = some (.bool true) := (blk_cell BK122.out 2).trans rfl; have hfz8_0 := blk_frozen BK122.out 0; have hfz8_1 := blk_frozen BK122.out 1; have hfz8_2 := blk_frozen BK122.out 2))
    go_ret
    exact ⟨by first | rfl | (simp [errW_none, errW_some] <;> rfl) | (simp [*, errW_none, errW_some] <;> rfl), by repeat (first | (with_reducible first | exact HB.out | apply below_alloc | apply pw_below_drewN | apply below_drew1 | refine below_set ?_ GE122.out) | exact HB.out)⟩
   ·rw [if_neg c6] at H
    have c6b0 : (a0_0 == 9) = false := beq_eq_false_iff_ne.mpr c6
    have c6b1 : (a0_0 != 9) = true := bne_iff_ne.mpr c6
    have HC9 := Aside0.mk H
    clear H
    go_enter Tryd.func23, Tryd.ntmps23
    go_upto_region 5 with (first | ((with_reducible refine gate_dst (N := 1) rfl ?_); refine box_event ?hg (N := 1) ?hd (cs := #[.int .i32 a0_0, .int .i64 a0_1, .bool true]) (t := 50) ?hr ?_; (case hd => rfl); (case hg => rfl); (case hr => first | (go_simp; done) | (go_simp; rfl)); intro gb122 hg w10 hbox hb; have n0_ := Aside0.mk (below_step (by repeat (first | (with_reducible first | exact HB.out | apply below_alloc | apply pw_below_drewN | apply below_drew1) | exact HB.out)) hb); have n1_ := Aside0.mk (hbox); have n2_ := Aside0.mk ((by rw [hg]; exact (below_size (by repeat (first | (with_reducible first | exact HB.out | apply below_alloc | apply pw_below_drewN | apply below_drew1) | exact HB.out))) : w.heap.size ≤ gb122)); have n3_ := Aside0.mk ((by rw [hg]; exact (below_size (by repeat (first | (with_reducible first | exact HB.out | apply below_alloc | apply pw_below_drewN | apply below_drew1) | exact HB.out))) : w.heap.size ≤ gb122)); clear HB; have HB := n0_; have BK122 := n1_; have GW122 := n2_; have GE122 := n3_; clear n0_ n1_ n2_ n3_; clear hb hbox hg; have hcz11_0 : w10.cell? ⟨gb122, 0, none⟩ = some (.int .i32 a0_0) := (blk_cell BK122.out 0).trans rfl; have hcz11_1 : w10.cell? ⟨gb122, 1, none⟩ = some (.int .i64 a0_1) := (blk_cell BK122.out 1).trans rfl; have hcz11_2 : w10.cell? ⟨gb122, 2, none⟩ = some (.bool true) := (blk_cell BK122.out 2).trans rfl; have hfz11_0 := blk_frozen BK122.out 0; have hfz11_1 := blk_frozen BK122.out 1; have hfz11_2 := blk_frozen BK122.out 2))
    (try simp only [Act.put, List.setIfInBounds_toArray, List.set_cons_zero, List.set_cons_succ])
    go_cut [16] (fun v16 wc => ∃ (kq : Nat) (x16_8 : Bool), v16 = .bool x16_8 ∧ Aside0 (words_Kind.j0 kq a0_0 x16_8 = some r) ∧ Aside0 (kq ≤ k) ∧ Aside0 (wc.heap[gb122]? = some (.cells #[.int .i32 a0_0, .int .i64 a0_1, .bool true] 50 (0, 0))) ∧ Aside0 (Below w.heap.size w wc))
    case first =>
     have H := HC9.out
     clear HC9
     by_cases c12 : a0_0 = 10
     ·rw [if_pos c12] at H
      have c12b0 : (a0_0 == 10) = true := beq_iff_eq.mpr c12
      have c12b1 : (a0_0 != 10) = false := bne_eq_false_iff_eq.mpr c12
      clear c12
      (first | rw [c12b0] | (simp only [i64_w, i32_w]; rw [c12b0]) | skip)
      have H' := Aside0.mk H
      clear H
      go_wp2
      go_meet
      case rel => exact ⟨_, (true), (by first | rfl | (simp; done) | (simp [*]; done)), H', ⟨by first | omega | exact Nat.le_refl _⟩, ⟨by (with_reducible repeat (first | refine blk_drewN ?_ _ | refine blk_drew ?_ | refine blk_alloc ?_ _)); exact BK122.out⟩, ⟨by repeat (first | (with_reducible first | exact HB.out | apply below_alloc | apply pw_below_drewN | apply below_drew1 | refine below_set ?_ GE122.out) | exact HB.out)⟩⟩
     ·rw [if_neg c12] at H
      have c12b0 : (a0_0 == 10) = false := beq_eq_false_iff_ne.mpr c12
      have c12b1 : (a0_0 != 10) = true := bne_iff_ne.mpr c12
      (first | rw [c12b0] | (simp only [i64_w, i32_w]; rw [c12b0]) | skip)
      have H' := Aside0.mk H
      clear H
      go_wp2
      go_meet
      case rel => exact ⟨_, ((a0_0 == 13)), (by first | rfl | (simp; done) | (simp [*]; done)), H', ⟨by first | omega | exact Nat.le_refl _⟩, ⟨by (with_reducible repeat (first | refine blk_drewN ?_ _ | refine blk_drew ?_ | refine blk_alloc ?_ _)); exact BK122.out⟩, ⟨by repeat (first | (with_reducible first | exact HB.out | apply below_alloc | apply pw_below_drewN | apply below_drew1 | refine below_set ?_ GE122.out) | exact HB.out)⟩⟩
    case rest =>
     clear HC9
     try clear c1
     try clear c2
     try clear p2
     try clear c3
     try clear c3b0
     try clear c3b1
     try clear c6
     try clear c6b0
     try clear c6b1
     try clear c12
     try clear c12b0
     try clear c12b1
     try clear hcz11_0
     try clear hcz11_1
     try clear hcz11_2
     try clear hcz5_0
     try clear hcz5_1
     try clear hcz5_2
     try clear hcz8_0
     try clear hcz8_1
     try clear hcz8_2
     try clear hfz11_0
     try clear hfz11_1
     try clear hfz11_2
     try clear hfz5_0
     try clear hfz5_1
     try clear hfz5_2
     try clear hfz8_0
     try clear hfz8_1
     try clear hfz8_2
     obtain ⟨kq, x16_8, rfl, HA, HJ8, BK122, HB⟩ := hcut
     cases kq with
     | zero => exact absurd HA.out (by simp [words_Kind.j0])
     | succ kj8 =>
      have H := HA.out
      clear HA
      simp only [words_Kind.j0] at H
      by_cases c13 : x16_8 = true
      ·subst c13
       have H1 : (some 2) = some r := by rw [if_pos rfl] at H; exact H
       clear H
       have H := H1
       clear H1
       obtain rfl := Option.some.inj H
       go_wp2
       go_ret
       exact ⟨by first | rfl | (simp [errW_none, errW_some] <;> rfl) | (simp [*, errW_none, errW_some] <;> rfl), by repeat (first | (with_reducible first | exact HB.out | apply below_alloc | apply pw_below_drewN | apply below_drew1 | refine below_set ?_ GE122.out) | exact HB.out)⟩
      ·replace c13 := Bool.eq_false_iff.mpr c13
       subst c13
       have H1 : (if a0_0 ≥ 48 then (if a0_0 ≤ 57 then (words_Kind.j1 kj8 a0_0 true) else (words_Kind.j1 kj8 a0_0 (a0_0 == 95))) else (words_Kind.j1 kj8 a0_0 (a0_0 == 95))) = some r := by rw [if_neg (show ¬ (false = true) by decide)] at H; exact H
       clear H
       have H := H1
       clear H1
       have HC14 := Aside0.mk H
       clear H
       go_upto_region 6 with (fail)
       go_cut [23] (fun v23 wc => ∃ (kq : Nat) (x23_13 : Bool), v23 = .bool x23_13 ∧ Aside0 (words_Kind.j1 kq a0_0 x23_13 = some r) ∧ Aside0 (kq ≤ kj8) ∧ Aside0 (wc.heap[gb122]? = some (.cells #[.int .i32 a0_0, .int .i64 a0_1, .bool true] 50 (0, 0))) ∧ Aside0 (Below w.heap.size w wc))
       case first =>
        have H := HC14.out
        clear HC14
        by_cases c15 : a0_0 ≥ 48
        ·rw [if_pos c15] at H
         have c15b0 : decide (48 ≤ a0_0) = true := decide_eq_true c15
         clear c15
         (first | rw [c15b0] | (simp only [i64_w, i32_w]; rw [c15b0]) | skip)
         by_cases c16 : a0_0 ≤ 57
         ·rw [if_pos c16] at H
          have c16b0 : decide (a0_0 ≤ 57) = true := decide_eq_true c16
          clear c16
          have H' := Aside0.mk H
          clear H
          go_wp2
          go_meet
          case rel => exact ⟨_, (true), (by first | rfl | (simp; done) | (simp [*]; done)), H', ⟨by have := HJ8.out; first | omega | exact Nat.le_refl _⟩, ⟨by (with_reducible repeat (first | refine blk_drewN ?_ _ | refine blk_drew ?_ | refine blk_alloc ?_ _)); exact BK122.out⟩, ⟨by repeat (first | (with_reducible first | exact HB.out | apply below_alloc | apply pw_below_drewN | apply below_drew1 | refine below_set ?_ GE122.out) | exact HB.out)⟩⟩
         ·rw [if_neg c16] at H
          have c16b0 : decide (a0_0 ≤ 57) = false := decide_eq_false c16
          clear c16
          have H' := Aside0.mk H
          clear H
          go_wp2
          go_meet
          case rel => exact ⟨_, ((a0_0 == 95)), (by first | rfl | (simp; done) | (simp [*]; done)), H', ⟨by have := HJ8.out; first | omega | exact Nat.le_refl _⟩, ⟨by (with_reducible repeat (first | refine blk_drewN ?_ _ | refine blk_drew ?_ | refine blk_alloc ?_ _)); exact BK122.out⟩, ⟨by repeat (first | (with_reducible first | exact HB.out | apply below_alloc | apply pw_below_drewN | apply below_drew1 | refine below_set ?_ GE122.out) | exact HB.out)⟩⟩
        ·rw [if_neg c15] at H
         have c15b0 : decide (48 ≤ a0_0) = false := decide_eq_false c15
         clear c15
         (first | rw [c15b0] | (simp only [i64_w, i32_w]; rw [c15b0]) | skip)
         have H' := Aside0.mk H
         clear H
         go_wp2
         go_meet
         case rel => exact ⟨_, ((a0_0 == 95)), (by first | rfl | (simp; done) | (simp [*]; done)), H', ⟨by have := HJ8.out; first | omega | exact Nat.le_refl _⟩, ⟨by (with_reducible repeat (first | refine blk_drewN ?_ _ | refine blk_drew ?_ | refine blk_alloc ?_ _)); exact BK122.out⟩, ⟨by repeat (first | (with_reducible first | exact HB.out | apply below_alloc | apply pw_below_drewN | apply below_drew1 | refine below_set ?_ GE122.out) | exact HB.out)⟩⟩
       case rest =>
        clear HC14
        try clear c1
        try clear c2
        try clear p2
        try clear c3
        try clear c3b0
        try clear c3b1
        try clear c6
        try clear c6b0
        try clear c6b1
        try clear c12
        try clear c12b0
        try clear c12b1
        try clear c13
        try clear c15
        try clear c15b0
        try clear c16
        try clear c16b0
        try clear hcz11_0
        try clear hcz11_1
        try clear hcz11_2
        try clear hcz5_0
        try clear hcz5_1
        try clear hcz5_2
        try clear hcz8_0
        try clear hcz8_1
        try clear hcz8_2
        try clear hfz11_0
        try clear hfz11_1
        try clear hfz11_2
        try clear hfz5_0
        try clear hfz5_1
        try clear hfz5_2
        try clear hfz8_0
        try clear hfz8_1
        try clear hfz8_2
        try clear p2
        obtain ⟨kq, x23_13, rfl, HA, HJ13, BK122, HB⟩ := hcut
        cases kq with
        | zero => exact absurd HA.out (by simp [words_Kind.j1])
        | succ kj13 =>
         have H := HA.out
         clear HA
         simp only [words_Kind.j1] at H
         by_cases c17 : x23_13 = true
         ·subst c17
          have H1 : (some 3) = some r := by rw [if_pos rfl] at H; exact H
          clear H
          have H := H1
          clear H1
          obtain rfl := Option.some.inj H
          go_wp2
          go_ret
          exact ⟨by first | rfl | (simp [errW_none, errW_some] <;> rfl) | (simp [*, errW_none, errW_some] <;> rfl), by repeat (first | (with_reducible first | exact HB.out | apply below_alloc | apply pw_below_drewN | apply below_drew1 | refine below_set ?_ GE122.out) | exact HB.out)⟩
         ·replace c17 := Bool.eq_false_iff.mpr c17
          subst c17
          have H1 : (if a0_0 ≥ 65 then (if a0_0 ≤ 90 then (words_Kind.j2 kj13 a0_0 true) else (if a0_0 ≥ 97 then (words_Kind.j2 kj13 a0_0 (decide (a0_0 ≤ 122))) else (words_Kind.j2 kj13 a0_0 false))) else (if a0_0 ≥ 97 then (words_Kind.j2 kj13 a0_0 (decide (a0_0 ≤ 122))) else (words_Kind.j2 kj13 a0_0 false))) = some r := by rw [if_neg (show ¬ (false = true) by decide)] at H; exact H
          clear H
          have H := H1
          clear H1
          have HC18 := Aside0.mk H
          clear H
          go_upto_region 7 with (fail)
          go_cut [34] (fun v34 wc => ∃ (kq : Nat) (x34_17 : Bool), v34 = .bool x34_17 ∧ Aside0 (words_Kind.j2 kq a0_0 x34_17 = some r) ∧ Aside0 (kq ≤ kj13) ∧ Aside0 (wc.heap[gb122]? = some (.cells #[.int .i32 a0_0, .int .i64 a0_1, .bool true] 50 (0, 0))) ∧ Aside0 (Below w.heap.size w wc))
          case first =>
           have H := HC18.out
           clear HC18
           by_cases c19 : a0_0 ≥ 65
           ·rw [if_pos c19] at H
            have c19b0 : decide (65 ≤ a0_0) = true := decide_eq_true c19
            clear c19
            (first | rw [c19b0] | (simp only [i64_w, i32_w]; rw [c19b0]) | skip)
            by_cases c20 : a0_0 ≤ 90
            ·rw [if_pos c20] at H
             have c20b0 : decide (a0_0 ≤ 90) = true := decide_eq_true c20
             clear c20
             have H' := Aside0.mk H
             clear H
             go_wp2
             go_meet
             case rel => exact ⟨_, (true), (by first | rfl | (simp; done) | (simp [*]; done)), H', ⟨by have := HJ8.out; have := HJ13.out; first | omega | exact Nat.le_refl _⟩, ⟨by (with_reducible repeat (first | refine blk_drewN ?_ _ | refine blk_drew ?_ | refine blk_alloc ?_ _)); exact BK122.out⟩, ⟨by repeat (first | (with_reducible first | exact HB.out | apply below_alloc | apply pw_below_drewN | apply below_drew1 | refine below_set ?_ GE122.out) | exact HB.out)⟩⟩
            ·rw [if_neg c20] at H
             have c20b0 : decide (a0_0 ≤ 90) = false := decide_eq_false c20
             clear c20
             by_cases c21 : a0_0 ≥ 97
             ·rw [if_pos c21] at H
              have c21b0 : decide (97 ≤ a0_0) = true := decide_eq_true c21
              clear c21
              have H' := Aside0.mk H
              clear H
              go_wp2
              go_meet
              case rel => exact ⟨_, (decide (a0_0 ≤ 122)), (by first | rfl | (simp; done) | (simp [*]; done)), H', ⟨by have := HJ8.out; have := HJ13.out; first | omega | exact Nat.le_refl _⟩, ⟨by (with_reducible repeat (first | refine blk_drewN ?_ _ | refine blk_drew ?_ | refine blk_alloc ?_ _)); exact BK122.out⟩, ⟨by repeat (first | (with_reducible first | exact HB.out | apply below_alloc | apply pw_below_drewN | apply below_drew1 | refine below_set ?_ GE122.out) | exact HB.out)⟩⟩
             ·rw [if_neg c21] at H
              have c21b0 : decide (97 ≤ a0_0) = false := decide_eq_false c21
              clear c21
              have H' := Aside0.mk H
              clear H
              go_wp2
              go_meet
              case rel => exact ⟨_, (false), (by first | rfl | (simp; done) | (simp [*]; done)), H', ⟨by have := HJ8.out; have := HJ13.out; first | omega | exact Nat.le_refl _⟩, ⟨by (with_reducible repeat (first | refine blk_drewN ?_ _ | refine blk_drew ?_ | refine blk_alloc ?_ _)); exact BK122.out⟩, ⟨by repeat (first | (with_reducible first | exact HB.out | apply below_alloc | apply pw_below_drewN | apply below_drew1 | refine below_set ?_ GE122.out) | exact HB.out)⟩⟩
           ·rw [if_neg c19] at H
            have c19b0 : decide (65 ≤ a0_0) = false := decide_eq_false c19
            clear c19
            (first | rw [c19b0] | (simp only [i64_w, i32_w]; rw [c19b0]) | skip)
            by_cases c22 : a0_0 ≥ 97
            ·rw [if_pos c22] at H
             have c22b0 : decide (97 ≤ a0_0) = true := decide_eq_true c22
             clear c22
             have H' := Aside0.mk H
             clear H
             go_wp2
             go_meet
             case rel => exact ⟨_, (decide (a0_0 ≤ 122)), (by first | rfl | (simp; done) | (simp [*]; done)), H', ⟨by have := HJ8.out; have := HJ13.out; first | omega | exact Nat.le_refl _⟩, ⟨by (with_reducible repeat (first | refine blk_drewN ?_ _ | refine blk_drew ?_ | refine blk_alloc ?_ _)); exact BK122.out⟩, ⟨by repeat (first | (with_reducible first | exact HB.out | apply below_alloc | apply pw_below_drewN | apply below_drew1 | refine below_set ?_ GE122.out) | exact HB.out)⟩⟩
            ·rw [if_neg c22] at H
             have c22b0 : decide (97 ≤ a0_0) = false := decide_eq_false c22
             clear c22
             have H' := Aside0.mk H
             clear H
             go_wp2
             go_meet
             case rel => exact ⟨_, (false), (by first | rfl | (simp; done) | (simp [*]; done)), H', ⟨by have := HJ8.out; have := HJ13.out; first | omega | exact Nat.le_refl _⟩, ⟨by (with_reducible repeat (first | refine blk_drewN ?_ _ | refine blk_drew ?_ | refine blk_alloc ?_ _)); exact BK122.out⟩, ⟨by repeat (first | (with_reducible first | exact HB.out | apply below_alloc | apply pw_below_drewN | apply below_drew1 | refine below_set ?_ GE122.out) | exact HB.out)⟩⟩
          case rest =>
           clear HC18
           try clear c1
           try clear c2
           try clear p2
           try clear c3
           try clear c3b0
           try clear c3b1
           try clear c6
           try clear c6b0
           try clear c6b1
           try clear c12
           try clear c12b0
           try clear c12b1
           try clear c13
           try clear c15
           try clear c15b0
           try clear c16
           try clear c16b0
           try clear c17
           try clear c19
           try clear c19b0
           try clear c20
           try clear c20b0
           try clear c21
           try clear c21b0
           try clear c22
           try clear c22b0
           try clear hcz11_0
           try clear hcz11_1
           try clear hcz11_2
           try clear hcz5_0
           try clear hcz5_1
           try clear hcz5_2
           try clear hcz8_0
           try clear hcz8_1
           try clear hcz8_2
           try clear hfz11_0
           try clear hfz11_1
           try clear hfz11_2
           try clear hfz5_0
           try clear hfz5_1
           try clear hfz5_2
           try clear hfz8_0
           try clear hfz8_1
           try clear hfz8_2
           try clear p2
           obtain ⟨kq, x34_17, rfl, HA, HJ17, BK122, HB⟩ := hcut
           cases kq with
           | zero => exact absurd HA.out (by simp [words_Kind.j2])
           | succ kj17 =>
            have H := HA.out
            clear HA
            simp only [words_Kind.j2] at H
            by_cases c23 : x34_17 = true
            ·subst c23
             have H1 : (some 3) = some r := by rw [if_pos rfl] at H; exact H
             clear H
             have H := H1
             clear H1
             obtain rfl := Option.some.inj H
             go_wp2
             go_ret
             exact ⟨by first | rfl | (simp [errW_none, errW_some] <;> rfl) | (simp [*, errW_none, errW_some] <;> rfl), by repeat (first | (with_reducible first | exact HB.out | apply below_alloc | apply pw_below_drewN | apply below_drew1 | refine below_set ?_ GE122.out) | exact HB.out)⟩
            ·replace c23 := Bool.eq_false_iff.mpr c23
             subst c23
             have H1 : (if a0_0 ≥ 128 then (some 3) else (some 4)) = some r := by rw [if_neg (show ¬ (false = true) by decide)] at H; exact H
             clear H
             have H := H1
             clear H1
             by_cases c24 : a0_0 ≥ 128
             ·rw [if_pos c24] at H
              have c24b0 : decide (128 ≤ a0_0) = true := decide_eq_true c24
              clear c24
              obtain rfl := Option.some.inj H
              go_wp2
              go_ret
              exact ⟨by first | rfl | (simp [errW_none, errW_some] <;> rfl) | (simp [*, errW_none, errW_some] <;> rfl), by repeat (first | (with_reducible first | exact HB.out | apply below_alloc | apply pw_below_drewN | apply below_drew1 | refine below_set ?_ GE122.out) | exact HB.out)⟩
             ·rw [if_neg c24] at H
              have c24b0 : decide (128 ≤ a0_0) = false := decide_eq_false c24
              clear c24
              obtain rfl := Option.some.inj H
              go_wp2
              go_ret
              exact ⟨by first | rfl | (simp [errW_none, errW_some] <;> rfl) | (simp [*, errW_none, errW_some] <;> rfl), by repeat (first | (with_reducible first | exact HB.out | apply below_alloc | apply pw_below_drewN | apply below_drew1 | refine below_set ?_ GE122.out) | exact HB.out)⟩
 ·replace c2 := Bool.eq_false_iff.mpr c2
  subst c2
  have H1 : (some 5) = some r := by rw [if_neg (show ¬ (false = true) by decide)] at H; exact H
  clear H
  have H := H1
  clear H1
  obtain rfl := Option.some.inj H
  go_enter Tryd.func23, Tryd.ntmps23
  go_wp2_with (first | ((with_reducible refine gate_dst (N := 1) rfl ?_); refine box_event ?hg (N := 1) ?hd (cs := #[.int .i32 a0_0, .int .i64 a0_1, .bool false]) (t := 50) ?hr ?_; (case hd => rfl); (case hg => rfl); (case hr => first | (go_simp; done) | (go_simp; rfl)); intro gb122 hg w25 hbox hb; have n0_ := Aside0.mk (below_step (by repeat (first | (with_reducible first | exact HB.out | apply below_alloc | apply pw_below_drewN | apply below_drew1) | exact HB.out)) hb); have n1_ := Aside0.mk (hbox); have n2_ := Aside0.mk ((by rw [hg]; exact (below_size (by repeat (first | (with_reducible first | exact HB.out | apply below_alloc | apply pw_below_drewN | apply below_drew1) | exact HB.out))) : w.heap.size ≤ gb122)); have n3_ := Aside0.mk ((by rw [hg]; exact (below_size (by repeat (first | (with_reducible first | exact HB.out | apply below_alloc | apply pw_below_drewN | apply below_drew1) | exact HB.out))) : w.heap.size ≤ gb122)); clear HB; have HB := n0_; have BK122 := n1_; have GW122 := n2_; have GE122 := n3_; clear n0_ n1_ n2_ n3_; clear hb hbox hg; have hcz26_0 : w25.cell? ⟨gb122, 0, none⟩ = some (.int .i32 a0_0) := (blk_cell BK122.out 0).trans rfl; have hcz26_1 : w25.cell? ⟨gb122, 1, none⟩ = some (.int .i64 a0_1) := (blk_cell BK122.out 1).trans rfl; have hcz26_2 : w25.cell? ⟨gb122, 2, none⟩ = some (.bool false) := (blk_cell BK122.out 2).trans rfl; have hfz26_0 := blk_frozen BK122.out 0; have hfz26_1 := blk_frozen BK122.out 1; have hfz26_2 := blk_frozen BK122.out 2))
  go_ret
  exact ⟨by first | rfl | (simp [errW_none, errW_some] <;> rfl) | (simp [*, errW_none, errW_some] <;> rfl), by repeat (first | (with_reducible first | exact HB.out | apply below_alloc | apply pw_below_drewN | apply below_drew1 | refine below_set ?_ GE122.out) | exact HB.out)⟩

end Go.Proofs.YtijbkiajhicooabDoor.PW

namespace Go.Proofs.YtijbkiajhicooabDoor.PW
open Go.RowKit Go.Proofs.YtijbkiajhicooabDoorW.PrintWords Go.Proofs.YtijbkiajhicooabDoorW.PrintLast Go.Proofs.YtijbkiajhicooabDoorW.PrintMore
attribute [local go_sem] max2_int min2_int max_two min_two max_three min_three max_four min_four   -- for this text's walks alone
set_option linter.unusedVariables false
set_option linter.unusedSimpArgs false

/-- A step's kind, by its rune and whether it is whole. -/
def kindOf (r : Int) (w : Bool) : Int :=
 if w = true then (if r = 32 ∨ r = 9 then 1 else if r = 10 ∨ r = 13 then 2 else if (48 ≤ r ∧ r ≤ 57) ∨ r = 95 ∨ (65 ≤ r ∧ r ≤ 90) ∨ (97 ≤ r ∧ r ≤ 122) ∨ 128 ≤ r then 3 else 4) else 5
theorem words_Kind.is (r x : Int) (w : Bool) : words_Kind.f 3 r x w = some (kindOf r w) := by
 unfold words_Kind.f kindOf
 cases w with
 | false => rfl
 | true =>
  simp only [if_true, words_Kind.j0, words_Kind.j1, words_Kind.j2]
  by_cases h1 : r = 32
  ·simp [h1]
  ·by_cases h2 : r = 9
   ·simp [h2]
   ·by_cases h3 : r = 10
    ·simp [h3]
    ·by_cases h4 : r = 13
     ·simp [h4]
     ·rw [if_neg h1, if_neg h2, if_neg h3]
      have e13 : (r == 13) = false := by simpa using h4
      rw [e13, if_neg (by decide), if_neg (show ¬ (r = 32 ∨ r = 9) by omega), if_neg (show ¬ (r = 10 ∨ r = 13) by omega)]
      simp only [show (r == 95) = decide (r = 95) by rw [Bool.eq_iff_iff]; simp, decide_eq_true_eq, Bool.false_eq_true, if_false]
      by_cases h5 : (48 ≤ r ∧ r ≤ 57) ∨ r = 95 ∨ (65 ≤ r ∧ r ≤ 90) ∨ (97 ≤ r ∧ r ≤ 122) ∨ 128 ≤ r
      ·rw [if_pos h5]
       repeat' split
       all_goals first | rfl | (exfalso; omega)
      ·rw [if_neg h5]
       repeat' split
       all_goals first | rfl | (exfalso; omega)
/-- One more step behind the runs so far. -/
def runStep (out : List S109) (x : PStep) : List S109 :=
 if 0 < out.length ∧ (rd_T109 out ((out.length : Int) - 1)).f1 = kindOf x.2.1 x.2.2.2 then
  out.set ((out.length : Int) - 1).toNat ⟨⟨(rd_T109 out ((out.length : Int) - 1)).f0.f0, wrap64 (x.1 + x.2.2.1)⟩, (rd_T109 out ((out.length : Int) - 1)).f1⟩
 else out ++ [⟨⟨x.1, wrap64 (x.1 + x.2.2.1)⟩, kindOf x.2.1 x.2.2.2⟩]
def runsOf (l0 : List Int) : List S109 := (allSteps (strOfNums l0)).foldl runStep []
def words_runs.f (l0 : List Int) : Option (List S109) := if l0.length ≤ 4398046511104 then some (runsOf l0) else none
theorem runStep_length (out : List S109) (x : PStep) : (runStep out x).length ≤ out.length + 1 := by
 unfold runStep
 split
 ·simp
 ·simp
theorem runs_length (l : List PStep) : ∀ out : List S109, (l.foldl runStep out).length ≤ out.length + l.length := by
 induction l with
 | nil => intro out; simp
 | cons x l ih => intro out; have := ih (runStep out x); have := runStep_length out x; simp only [List.foldl_cons, List.length_cons]; omega
/-- How a round of the loop is left. -/
def RunsPost (B : Nat) (W : World) (out : List S109) : Exit → Act → World → Prop := fun e _ W2 =>
 e = .normal ∧ KeepsOthers W W2 ∧ Below B W W2 ∧ W2.heap[B + 1]? = W.heap[B + 1]? ∧ ∃ v, W2.heap[B]? = some (.cells #[v] 110 (0, 0)) ∧ Kd.R k109 109 W2 B (fun _ => True) v out
attribute [local go_sem] Oper.semAt_some
set_option maxRecDepth 100000 in
set_option maxHeartbeats 2000000 in
theorem words_runs.walk (A0 : Option Addr) (c0 : Nat) (l0 : List Int) (w : World) (hr0 : Kd.C (Kd.int .u8) w A0 l0.length l0) (hc0 : l0.length ≤ c0) (hL : LaidBad w) (hlim : l0.length ≤ 4398046511104) :
  CallsIn Fence.wide 10 Tryd.prog 52 #[.slice A0 l0.length c0] w fun e w' => ∃ v0_ : Value, e = .returned (v0_) ∧ Kd.R k109 109 w' w.heap.size (fun _ => True) v0_ (runsOf l0) ∧ Below w.heap.size w w' := by
 refine callsIn_of_wp_marks Tryd.func52 rfl trivial ?_ rfl
 have hBa : Below w.heap.size w (w.alloc (.cells #[.slice none 0 0] 110)) := (Below.refl _ w).alloc (Nat.le_refl _) _
 have hra : Kd.C (Kd.int .u8) (w.alloc (.cells #[.slice none 0 0] 110)) A0 l0.length l0 := Kd.C_alloc hr0 _
 have HRa := Aside0.mk hra
 have HR := Aside0.mk hr0
 clear hra hr0
 simp only [Tryd.ntmps52, List.size_toArray, List.length_cons, List.length_nil, Nat.reduceAdd, Nat.reduceSub, Array.replicate_succ, Array.replicate_zero, List.push_toArray, List.append_toArray, List.nil_append, List.cons_append]
 gi_wp2_with (refine ⟨trivial, ?_⟩; gi_at_call 57; refine (callsIn_wide.2 (step_All.calls A0 c0 l0 _ HRa.out hc0)).mono ?_; rintro e w' ⟨rfl, rfl⟩)
 have hB1 : Below w.heap.size w ((w.alloc (.cells #[.slice none 0 0] 110)).alloc (.cells #[.string (strOfNums l0)] 9)) := hBa.alloc (by simp) _
 have b0 : ((w.alloc (.cells #[.slice none 0 0] 110)).alloc (.cells #[.string (strOfNums l0)] 9)).heap[w.heap.size]? = some (.cells #[.slice none 0 0] 110 (0, 0)) := blk_alloc (blk_new w _) _
 have bs : ((w.alloc (.cells #[.slice none 0 0] 110)).alloc (.cells #[.string (strOfNums l0)] 9)).heap[w.heap.size + 1]? = some (.cells #[.string (strOfNums l0)] 9 (0, 0)) := by
  have := blk_new (w.alloc (.cells #[.slice none 0 0] 110)) (.cells #[.string (strOfNums l0)] 9)
  rwa [World.size_alloc] at this
 have hsz : ((w.alloc (.cells #[.slice none 0 0] 110)).alloc (.cells #[.string (strOfNums l0)] 9)).heap.size = w.heap.size + 2 := by simp
 have hL1 := laid_below hL hB1
 have hpos : 0 < w.heap.size := laid_lt hL
 have hns : (strOfNums l0).size ≤ 4398046511104 := by rw [strOfNums_size]; exact hlim
 have hN : (allSteps (strOfNums l0)).length ≤ 4398046511104 := Nat.le_trans (stepsFrom_length _ _) (by omega)
 generalize (w.alloc (.cells #[.slice none 0 0] 110)).alloc (.cells #[.string (strOfNums l0)] 9) = W1 at *
 clear HRa HR hBa
 refine wpIn_rangeFunc_ownH rfl (by decide) (gf := 88) (lb := #[.pointer (some ⟨w.heap.size + 1, 0, none⟩)]) rfl trivial (enters_of Tryd.func88 (by kernel_rfl) rfl)
  (step_All1.stops (10 - 1) (w.heap.size + 1) w.heap.size (by decide) (strOfNums l0) (by omega) hpos W1 bs hB1.size hL1) KpBox.t (KpBox.b hB1.size (by omega)) (Below.refl _ _) (fun _ => rfl)
  (fun pre W => Below w.heap.size w W ∧ ∃ v, W.heap[w.heap.size]? = some (.cells #[v] 110 (0, 0)) ∧ Kd.R k109 109 W w.heap.size (fun _ => True) v (pre.foldl runStep []) ∧ W.heap[w.heap.size + 1]? = some (.cells #[.string (strOfNums l0)] 9 (0, 0)))
  (fun _ _ _ => False)
  (OwnFrom.and (ownFrom_below (Nat.le_refl _) (by omega)) (fun s X Y row hs hg hr => by
   obtain ⟨v, h1, h2, h3⟩ := hs
   exact ⟨v, blk_abides h1 hg (fun r e => (hr r e).2), R_abides h2 hg (fun r e => (hr r e).2), blk_abides h3 hg (fun r e => (hr r e).2)⟩))
  (fun _ _ _ _ _ hs _ _ => hs)
  ⟨hB1, _, b0, Kd.R_nil _ _ _ _ _, bs⟩
  (fun x a' W => ∃ Bx, w.heap.size + 1 < Bx ∧ W.heap[Bx]? = some (.cells #[.int .i32 x.2.1, .int .i64 x.2.2.1, .bool x.2.2.2] 50 (0, 0)) ∧ a' = { tmps := #[.slice A0 l0.length c0, undef, .slice none 0 0, .pointer (some ⟨w.heap.size, 0, none⟩), .int .i64 x.1, .pointer (some ⟨Bx, 0, none⟩), undef, undef, .slice A0 l0.length c0, .func (.func 88) #[] #[.pointer (some ⟨w.heap.size + 1, 0, none⟩)], .int .i64 x.1, .agg #[.int .i32 x.2.1, .int .i64 x.2.2.1, .bool x.2.2.2], undef, undef, undef, undef, undef, undef, undef, undef, undef, undef, undef, undef, undef, undef, undef, undef, undef, undef, undef, undef, undef, undef, undef, undef, undef, undef, undef, undef, undef, undef, undef, undef, undef, undef, undef, undef, undef], defers := [] })
  (fun x a' _ X Y row hs hg hr => by obtain ⟨Bx, h1, h2, h3⟩ := hs; exact ⟨Bx, h1, blk_abides h2 hg (fun r e => (hr r e).2), h3⟩)
  ?assign ?body ?done ?stop
 case assign =>
  rintro l pre x W K ⟨hB, v, h1, h2, h3⟩ hK
  have hu := Tryd.underlying50
  gi_wp2
  have hlt := blk_lt h3
  exact hK _ _ ((KeepsOthers.alloc _ _).from _) (KpBox.of ((Below.refl _ W).alloc hB.size _) ((blk_alloc h3 _).trans h3.symm) (KeepsOthers.alloc _ _)) ⟨hB.alloc hB.size _, v, blk_alloc h1 _, Kd.R_alloc h2 _, blk_alloc h3 _⟩ ⟨W.heap.size, by omega, blk_new W _, rfl⟩
 case body =>
  rintro l pre x a' W hl ⟨r, hr⟩ ⟨hB, v, h1, h2, h3⟩ ⟨Bx, hBx, hbx, rfl⟩ hlen
  obtain ⟨xp, xr, xw, xb⟩ := x
  dsimp only at hbx ⊢
  have hu := Tryd.underlying50
  have hc1 := blk_cell h1 0
  have hf1 := blk_frozen h1 0
  have hcx0 := blk_cell hbx 0
  have hcx1 := blk_cell hbx 1
  have hcx2 := blk_cell hbx 2
  have hout : (pre.foldl runStep []).length ≤ 4398046511104 := by have := runs_length pre []; simp at this; omega
  refine wpIn_mono (Q := RunsPost w.heap.size W (runStep (pre.foldl runStep []) (xp, xr, xw, xb))) ?walk ?post
  case post =>
   rintro e a2 W2 ⟨rfl, g1, g2, g3, v2, g4, g5⟩
   exact ⟨g1.from _, KpBox.of g2 g3 g1, hB.trans g2, v2, g4, by rw [List.foldl_append]; exact g5, g3.trans h3⟩
  have h1' : 1 ≤ 10 - 1 - 1 := by decide
  generalize pre.foldl runStep [] = out at *
  have HK := Aside0.mk (words_Kind.is xr xw xb)
  generalize hkd : kindOf xr xb = kd at *
  gi_wp2_with (fail)
  refine ⟨trivial, ?_⟩
  gi_at_call 23
  refine (CallsIn.inRound l (callsIn_wide.2 (words_Kind.calls 3 xr xw xb kd _ HK.out))).mono ?_
  rintro e Wk ⟨rfl, hbk⟩
  have HO1 := Aside0.mk (KeepsOthers.of_grownBy (grown_of_below hbk none) (fun j o hj _ => by cases hj))
  have HB1 := Aside0.mk (hbk.mono hB.size)
  have H31 := Aside0.mk ((blk_below h3 hbk).trans h3.symm)
  replace h1 := blk_below h1 hbk
  replace h2 := Kd.R_below h2 hbk
  replace hbx := blk_below hbx hbk
  replace h3 := blk_below h3 hbk
  have hBk : w.heap.size ≤ Wk.heap.size := Nat.le_trans hB.size hbk.size
  clear hc1 hf1 hcx0 hcx1 hcx2 HK hr hbk
  obtain ⟨A, cp, rfl⟩ := Kd.R_slice h2
  have hc1 := blk_cell h1 0
  have hf1 := blk_frozen h1 0
  have hcx0 := blk_cell hbx 0
  have hcx1 := blk_cell hbx 1
  have hcx2 := blk_cell hbx 2
  by_cases h0 : out.length = 0
  ·obtain rfl : out = [] := List.eq_nil_of_length_eq_zero h0
   have hrs : runStep [] (xp, xr, xw, xb) = [] ++ [⟨⟨xp, wrap64 (xp + xw)⟩, kd⟩] := by simp [runStep, hkd]
   have HRS := Aside0.mk hrs
   have H2 := Aside0.mk h2
   clear h2 hrs h0 hout hkd
   have HLEN := Aside0.mk (show (([] : List S109).length + 1) * 24 ≤ 140737488355328 by decide)
   have H3 := Aside0.mk h3
   clear h3
   gi_wp2_with (gi_at_builtin; refine R_appendIn k109 (w0 := W) w.heap.size rfl (.tmp 37) (.tmp 46) 110 109 (.agg #[.int .i64 0, .int .i64 0, .int .i64 0]) 24 rfl Tryd.underlying110 info109 rfl (by decide) (by decide) (.slice A ([] : List S109).length cp) ([] : List S109) ⟨⟨xp, wrap64 (xp + xw)⟩, kd⟩ [.int .i64 xp, .int .i64 (wrap64 (xp + xw)), .int .i64 kd] (fun _ => True) (fun _ => False) rfl rfl (k109_mkM _ _ _ ⟨⟨xp, wrap64 (xp + xw)⟩, kd⟩) (fun _ hk => hk.elim) (fun _ _ => trivial) H2.out HB1.out hBk HLEN.out ?_; intro v1 w1 HR1 HB2 hg1 hnn; obtain ⟨A2, c2, rfl⟩ := Kd.R_slice HR1; have hb1 := blk_grown h1 hg1 (R_ne_blk H2.out h1 (by decide)); have hc2 := blk_cell hb1 0; have hf2 := blk_frozen hb1 0; have HR2 := Aside0.mk HR1; have HG2 := Aside0.mk hg1; have HB3 := Aside0.mk HB2; have HBX := Aside0.mk hb1; clear HR1 hg1 HB2 hnn hb1)
   refine ⟨rfl, (HO1.out.trans (keepsOthers_R H2.out HG2.out)).trans (KeepsOthers.setCell _ _ _), HB3.out.setCell (p := ⟨w.heap.size, 0, none⟩) (Nat.le_refl _) _, ?_, _, blk_set HBX.out 0 _, ?_⟩
   ·exact ((Below.heap_setCell _ _ _ _ (by simp)).trans ((HG2.out.block _ (blk_lt H3.out) (R_ne_blk H2.out H3.out (by decide))))).trans H31.out
   ·rw [HRS.out]; exact Kd.R_set HR2.out HBX.out (by decide) _ _
  ·obtain ⟨g, hA⟩ : ∃ g, A = some ⟨g, 0, none⟩ := by
    obtain ⟨inner, ho⟩ := Kd.R_own h2
    obtain ⟨g, cap, hv, _⟩ := ho.form (by omega)
    injection hv with hv1
    exact ⟨g, hv1⟩
   subst hA
   obtain ⟨i, hi⟩ : ∃ i : Int, (out.length : Int) - 1 = i := ⟨_, rfl⟩
   have hi0 : 0 ≤ i := by omega
   have hi1 : i < (out.length : Int) := by omega
   obtain ⟨ad, hAd, e0, e1, e2⟩ := at_T109 (Kd.R_reads' h2).2.2 i hi0 hi1
   cases hAd
   simp only [add_plain] at e0 e1 e2
   obtain ⟨cells, hgc⟩ := R_cells h2 g (by simp [Value.ownBlock])
   have hfg := blk_frozen hgc (i.toNat * 3 + 1)
   by_cases hk : (rd_T109 out i).f1 = kd
   ·have hrs : runStep out (xp, xr, xw, xb) = out.set i.toNat ⟨⟨(rd_T109 out i).f0.f0, wrap64 (xp + xw)⟩, (rd_T109 out i).f1⟩ := by
     unfold runStep
     rw [hkd, hi, if_pos ⟨by omega, hk⟩]
    have hseg := Kd.R_seg (x' := ⟨⟨(rd_T109 out i).f0.f0, wrap64 (xp + xw)⟩, (rd_T109 out i).f1⟩) (okp := fun _ => False) h2 i hi0 hi1 (c := [.int .i64 (rd_T109 out i).f0.f0, .int .i64 (rd_T109 out i).f0.f1, .int .i64 (rd_T109 out i).f1]) (seg := [.int .i64 (wrap64 (xp + xw))]) (j := 1) rfl
     (fun j u hu => by
      match j, hu with
      | 0, hu => rw [← hu]; exact e0
      | 1, hu => rw [← hu]; exact e1
      | 2, hu => rw [← hu]; exact e2
      | j + 3, hu => simp at hu) (by show 1 + 1 ≤ 3; decide) (k109_mkM _ _ _ ⟨⟨(rd_T109 out i).f0.f0, wrap64 (xp + xw)⟩, (rd_T109 out i).f1⟩) (fun _ h => h.elim)
    have HSEG := Aside0.mk hseg
    have HRS := Aside0.mk hrs
    have H2 := Aside0.mk h2
    have hkb : (((rd_T109 out i).f1 == kd) = true) := by simpa using hk
    have H3 := Aside0.mk h3
    have H1 := Aside0.mk h1
    have hig : decide (0 ≤ i) = true := by simpa using hi0
    replace hi0 := eq_true hi0
    replace hi1 := eq_true hi1
    have NE := Aside0.mk (R_ne_blk h2 h1 (by decide))
    have NE3 := Aside0.mk (R_ne_blk h2 h3 (by decide))
    have HBG := Aside0.mk (Kd.R_base h2 g (by simp [Value.ownBlock]))
    clear h2 hrs h0 hkd hk h3 h1 hseg
    gi_wp2
    refine ⟨rfl, HO1.out.trans (KeepsOthers.setCell _ _ _), HB1.out.setCell (p := ⟨g, _, none⟩) HBG.out _, ?_, _, blk_far H1.out (fun e => NE.out (by simp [Value.ownBlock, e])) _, ?_⟩
    ·exact (Below.heap_setCell _ _ _ _ (fun e => NE3.out (by simp [Value.ownBlock, e]))).trans H31.out
    ·rw [HRS.out]; exact HSEG.out.1
   ·have hrs : runStep out (xp, xr, xw, xb) = out ++ [⟨⟨xp, wrap64 (xp + xw)⟩, kd⟩] := by
     unfold runStep
     rw [hkd, hi, if_neg (fun h => hk h.2)]
    have HRS := Aside0.mk hrs
    have H2 := Aside0.mk h2
    have hkb : (((rd_T109 out i).f1 == kd) = false) := by simpa using hk
    have HLEN := Aside0.mk (show (out.length + 1) * 24 ≤ 140737488355328 by omega)
    have H3 := Aside0.mk h3
    have hig : decide (0 ≤ i) = true := by simpa using hi0
    replace hi0 := eq_true hi0
    replace hi1 := eq_true hi1
    clear h2 hrs h0 hkd hk h3
    gi_wp2_with (gi_at_builtin; refine R_appendIn k109 (w0 := W) w.heap.size rfl (.tmp 37) (.tmp 46) 110 109 (.agg #[.int .i64 0, .int .i64 0, .int .i64 0]) 24 rfl Tryd.underlying110 info109 rfl (by decide) (by decide) (.slice (some ⟨g, 0, none⟩) out.length cp) out ⟨⟨xp, wrap64 (xp + xw)⟩, kd⟩ [.int .i64 xp, .int .i64 (wrap64 (xp + xw)), .int .i64 kd] (fun _ => True) (fun _ => False) rfl rfl (k109_mkM _ _ _ ⟨⟨xp, wrap64 (xp + xw)⟩, kd⟩) (fun _ hk => hk.elim) (fun _ _ => trivial) H2.out HB1.out hBk HLEN.out ?_; intro v1 w1 HR1 HB2 hg1 hnn; obtain ⟨A2, c2, rfl⟩ := Kd.R_slice HR1; rw [List.length_append, List.length_singleton] at HR1; have hb1 := blk_grown h1 hg1 (R_ne_blk H2.out h1 (by decide)); have hc2 := blk_cell hb1 0; have hf2 := blk_frozen hb1 0; have HR2 := Aside0.mk HR1; have HG2 := Aside0.mk hg1; have HB3 := Aside0.mk HB2; have HBX := Aside0.mk hb1; clear HR1 hg1 HB2 hnn hb1)
    refine ⟨rfl, (HO1.out.trans (keepsOthers_R H2.out HG2.out)).trans (KeepsOthers.setCell _ _ _), HB3.out.setCell (p := ⟨w.heap.size, 0, none⟩) (Nat.le_refl _) _, ?_, _, blk_set HBX.out 0 _, ?_⟩
    ·exact ((Below.heap_setCell _ _ _ _ (by simp)).trans ((HG2.out.block _ (blk_lt H3.out) (R_ne_blk H2.out H3.out (by decide))))).trans H31.out
    ·rw [HRS.out]; exact Kd.R_set HR2.out HBX.out (by decide) _ _
 case done =>
  rintro D zs W hD rfl ⟨hB, v, h1, h2, h3⟩ hK
  have hc1 := blk_cell h1 0
  gi_wp2
  refine ⟨by simp, .inl ⟨_, _, rfl, run_takeDeferred hK, ?_⟩⟩
  exact ⟨_, results_tmp rfl _ _ _, v, rfl, R_abides h2 (grownBy_putObj' W D _) (fun r e => by cases e; exact ⟨_, hK, rfl⟩), hB.trans (belowK_b (w := w) (Nat.le_refl _) W D _ _ (by omega) hK rfl rfl)⟩
 case stop =>
  rintro D c pre W _ _ h _
  exact h.elim

theorem words_runs.calls (A0 : Option Addr) (c0 : Nat) (l0 : List Int) (r : List S109) (w : World) (hr0 : Kd.C (Kd.int .u8) w A0 l0.length l0) (hc0 : l0.length ≤ c0) (hL : LaidBad w) (h : words_runs.f l0 = some r) :
  Calls Tryd.prog 52 #[.slice A0 l0.length c0] w fun e w' => ∃ v0_ : Value, e = .returned (v0_) ∧ Kd.R k109 109 w' w.heap.size (fun _ => True) v0_ r ∧ Below w.heap.size w w' := by
 unfold words_runs.f at h
 by_cases hl : l0.length ≤ 4398046511104
 ·rw [if_pos hl] at h
  cases h
  exact callsIn_wide.1 (words_runs.walk A0 c0 l0 w hr0 hc0 hL hl)
 ·rw [if_neg hl] at h
  cases h

end Go.Proofs.YtijbkiajhicooabDoor.PW

namespace Go.Proofs.YtijbkiajhicooabDoor.PW
open Go.RowKit Go.Proofs.YtijbkiajhicooabDoorW.PrintWords Go.Proofs.YtijbkiajhicooabDoorW.PrintLast Go.Proofs.YtijbkiajhicooabDoorW.PrintMore
attribute [local go_sem] max2_int min2_int max_two min_two max_three min_three max_four min_four   -- for this text's walks alone
set_option linter.unusedVariables false
set_option linter.unusedSimpArgs false

def words_Around.l0 : Nat → Int → List (S109) → Int → Int → Int → Int → Int → Option (Int × Int × Int × Int)
 | 0, _, _, _, _, _, _, _ => none
 | k + 1, x1, x15, x16, x17, x126000, x126001, x126002 => if x17 < x16 then (if 0 ≤ x17 then (if x17 < (x15.length : Int) then (if x1 < ((rd_T109 x15 x17).f0.f1) then (some ((rd_T109 x15 x17).f0.f0, (rd_T109 x15 x17).f0.f1, (rd_T109 x15 x17).f1, 0)) else (words_Around.l0 k x1 x15 x16 (wrap64 (x17 + 1)) ((rd_T109 x15 x17).f0.f0) ((rd_T109 x15 x17).f0.f1) ((rd_T109 x15 x17).f1))) else (none)) else (none)) else (some (x126000, x126001, x126002, 0))
def words_Around.f (k : Nat) (l0 : List Int) (a1 : Int) : Option (Int × Int × Int × Int) := (words_outside.f l0 a1).bind fun t124 => (if t124 = true then (some (0, 0, 0, 2)) else ((words_runs.f l0).bind fun t126 => (words_Around.l0 k a1 t126 (t126.length : Int) 0 0 0 0)))
set_option maxHeartbeats 8000000 in
set_option maxRecDepth 100000 in
theorem words_Around.calls (k : Nat) (A0 : Option Addr) (c0 : Nat) (l0 : List Int) (a1 : Int) (r1 : Int) (r2 : Int) (r3 : Int) (r4 : Int) (w : World) (hr0 : Kd.C (Kd.int .u8) w A0 l0.length l0) (hc0 : l0.length ≤ c0) (hL : LaidBad w) (h : words_Around.f k l0 a1 = some (r1, r2, r3, r4)) :
  Calls Tryd.prog 20 #[.slice A0 l0.length c0, .int .i64 a1] w fun e w' => e = .returned (.tuple #[.agg #[.int .i64 r1, .int .i64 r2], .int .i64 r3, .int .i64 r4]) ∧ Below w.heap.size w w' := by
 have hu44 := Tryd.underlying44
 have hu109 := Tryd.underlying109
 have HR0 := Aside0.mk hr0
 have HC0 := Aside0.mk hc0
 clear hr0 hc0
 have HB := Aside0.mk (Below.refl w.heap.size w)
 have HLB := Aside0.mk hL
 clear hL
 have H : ((words_outside.f l0 a1).bind fun t124 => (if t124 = true then (some (0, 0, 0, 2)) else ((words_runs.f l0).bind fun t126 => (words_Around.l0 k a1 t126 (t126.length : Int) 0 0 0 0)))) = some (r1, r2, r3, r4) := h
 clear h
 replace H := Option.bind_eq_some_iff.mp H
 obtain ⟨t124, A30, H⟩ := H
 replace H : (if t124 = true then (some (0, 0, 0, 2)) else ((words_runs.f l0).bind fun t126 => (words_Around.l0 k a1 t126 (t126.length : Int) 0 0 0 0))) = some (r1, r2, r3, r4) := H
 have A3 := Aside0.mk A30
 clear A30
 by_cases c4 : t124 = true
 ·subst c4
  have H1 : (some (0, 0, 0, 2)) = some (r1, r2, r3, r4) := by rw [if_pos rfl] at H; exact H
  clear H
  have H := H1
  clear H1
  simp only [Option.some.injEq, Prod.mk.injEq] at H
  obtain ⟨rfl, rfl, rfl, rfl⟩ := H
  go_enter Tryd.func20, Tryd.ntmps20
  go_wp2_with (first | ((with_reducible refine gate_dst (N := 4) rfl ?_); refine box_event ?hg (N := 4) ?hd (cs := #[.int .i64 0, .int .i64 0]) (t := 44) ?hr ?_; (case hd => rfl); (case hg => rfl); (case hr => first | (go_simp; done) | (go_simp; rfl)); intro gb123 hg w5 hbox hb; have n0_ := Aside0.mk (below_step (by repeat (first | (with_reducible first | exact HB.out | apply below_alloc | apply pw_below_drewN | apply below_drew1) | exact HB.out)) hb); have n1_ := Aside0.mk (hbox); have n2_ := Aside0.mk ((by rw [hg]; exact (below_size (by repeat (first | (with_reducible first | exact HB.out | apply below_alloc | apply pw_below_drewN | apply below_drew1) | exact HB.out))) : w.heap.size ≤ gb123)); have n3_ := Aside0.mk ((by rw [hg]; exact (below_size (by repeat (first | (with_reducible first | exact HB.out | apply below_alloc | apply pw_below_drewN | apply below_drew1) | exact HB.out))) : w.heap.size ≤ gb123)); clear HB; have HB := n0_; have BK123 := n1_; have GW123 := n2_; have GE123 := n3_; clear n0_ n1_ n2_ n3_; clear hb hbox hg) | ((with_reducible refine gate_callee (f := 51) rfl ?_); refine goesL_ (some 12) rfl rfl Tryd.func51 (by kernel_rfl) rfl #[.slice A0 l0.length c0, .int .i64 a1] rfl (by (try simp only [List.map_toArray, List.map_cons, List.map_nil]); first | done | rfl | (simp only [List.length_drop, List.length_take]; rfl)) ?_; (with_reducible refine (words_outside.calls _ _ l0 a1 true _ ?side1 ?side2 A3.out).mono ?_); (case side1 => repeat (first | exact (Kd.C_below HR0.out HB.out) | (with_reducible refine Kd.C_alloc ?_ _) | (with_reducible refine Kd.C_drewN ?_ _) | (with_reducible refine Kd.C_drew ?_))); (case side2 => exact HC0.out); rintro e w' ⟨rfl, ⟨nd, rfl⟩⟩; refine ⟨_, rfl, ?_⟩; (try (rw [drewN_self w5]; generalize hq_ : World.drewN w5 _ = w5; have n0_ : Aside0 (w5.heap[gb123]? = some (.cells #[.int .i64 0, .int .i64 0] 44 (0, 0))) := ⟨by rw [← hq_]; exact (by (with_reducible repeat (first | refine blk_drewN ?_ _ | refine blk_drew ?_ | refine blk_alloc ?_ _)); exact BK123.out)⟩; have n1_ : Aside0 (Below w.heap.size w w5) := ⟨by rw [← hq_]; exact (by repeat (first | (with_reducible first | exact HB.out | apply below_alloc | apply pw_below_drewN | apply below_drew1 | refine below_set ?_ GE123.out) | exact HB.out))⟩; clear BK123 HB hq_; have BK123 := n0_; have HB := n1_; clear n0_ n1_)); have hcz6_0 : w5.cell? ⟨gb123, 0, none⟩ = some (.int .i64 0) := (blk_cell BK123.out 0).trans rfl; have hcz6_1 : w5.cell? ⟨gb123, 1, none⟩ = some (.int .i64 0) := (blk_cell BK123.out 1).trans rfl; have hfz6_0 := blk_frozen BK123.out 0; have hfz6_1 := blk_frozen BK123.out 1))
  refine bodyPost_ret (results_ctt rfl _ _ gb123 44 #[.int .i64 0, .int .i64 0] (0, 0) _ rfl (by (with_reducible repeat (first | refine blk_drewN ?_ _ | refine blk_drew ?_ | refine blk_alloc ?_ _)); refine blk_put (cs := #[.int .i64 0, .int .i64 0]) ?_ 1 _ rfl; (with_reducible repeat (first | refine blk_drewN ?_ _ | refine blk_drew ?_ | refine blk_alloc ?_ _)); refine blk_put (cs := #[.int .i64 0, .int .i64 0]) ?_ 0 _ rfl; (with_reducible repeat (first | refine blk_drewN ?_ _ | refine blk_drew ?_ | refine blk_alloc ?_ _)); exact BK123.out) Tryd.underlying44 rfl (by kernel_rfl)) rfl ?_
  exact ⟨by first | rfl | (simp [errW_none, errW_some] <;> rfl) | (simp [*, errW_none, errW_some] <;> rfl), by repeat (first | (with_reducible first | exact HB.out | apply below_alloc | apply pw_below_drewN | apply below_drew1 | refine below_set ?_ GE123.out) | exact HB.out)⟩
 ·replace c4 := Bool.eq_false_iff.mpr c4
  subst c4
  have H1 : ((words_runs.f l0).bind fun t126 => (words_Around.l0 k a1 t126 (t126.length : Int) 0 0 0 0)) = some (r1, r2, r3, r4) := by rw [if_neg (show ¬ (false = true) by decide)] at H; exact H
  clear H
  have H := H1
  clear H1
  replace H := Option.bind_eq_some_iff.mp H
  obtain ⟨t126, A70, H⟩ := H
  replace H : (words_Around.l0 k a1 t126 (t126.length : Int) 0 0 0 0) = some (r1, r2, r3, r4) := H
  have A7 := Aside0.mk A70
  clear A70
  have H' := Aside0.mk H
  clear H
  go_enter Tryd.func20, Tryd.ntmps20
  go_wp2_with (first | ((with_reducible refine gate_dst (N := 4) rfl ?_); refine box_event ?hg (N := 4) ?hd (cs := #[.int .i64 0, .int .i64 0]) (t := 44) ?hr ?_; (case hd => rfl); (case hg => rfl); (case hr => first | (go_simp; done) | (go_simp; rfl)); intro gb123 hg w8 hbox hb; have n0_ := Aside0.mk (below_step (by repeat (first | (with_reducible first | exact HB.out | apply below_alloc | apply pw_below_drewN | apply below_drew1) | exact HB.out)) hb); have n1_ := Aside0.mk (hbox); have n2_ := Aside0.mk ((by rw [hg]; exact (below_size (by repeat (first | (with_reducible first | exact HB.out | apply below_alloc | apply pw_below_drewN | apply below_drew1) | exact HB.out))) : w.heap.size ≤ gb123)); have n3_ := Aside0.mk ((by rw [hg]; exact (below_size (by repeat (first | (with_reducible first | exact HB.out | apply below_alloc | apply pw_below_drewN | apply below_drew1) | exact HB.out))) : w.heap.size ≤ gb123)); clear HB; have HB := n0_; have BK123 := n1_; have GW123 := n2_; have GE123 := n3_; clear n0_ n1_ n2_ n3_; clear hb hbox hg) | ((with_reducible refine gate_callee (f := 51) rfl ?_); refine goesL_ (some 12) rfl rfl Tryd.func51 (by kernel_rfl) rfl #[.slice A0 l0.length c0, .int .i64 a1] rfl (by (try simp only [List.map_toArray, List.map_cons, List.map_nil]); first | done | rfl | (simp only [List.length_drop, List.length_take]; rfl)) ?_; (with_reducible refine (words_outside.calls _ _ l0 a1 false _ ?side1 ?side2 A3.out).mono ?_); (case side1 => repeat (first | exact (Kd.C_below HR0.out HB.out) | (with_reducible refine Kd.C_alloc ?_ _) | (with_reducible refine Kd.C_drewN ?_ _) | (with_reducible refine Kd.C_drew ?_))); (case side2 => exact HC0.out); rintro e w' ⟨rfl, ⟨nd, rfl⟩⟩; refine ⟨_, rfl, ?_⟩) | ((with_reducible refine gate_dst (N := 7) rfl ?_); refine box_event ?hg (N := 7) ?hd (cs := #[.int .i64 0, .int .i64 0, .int .i64 0]) (t := 109) ?hr ?_; (case hd => rfl); (case hg => rfl); (case hr => first | (go_simp; done) | (go_simp; rfl)); intro gb125 hg w9 hbox hb; have n0_ := Aside0.mk (blk_below (g := gb123) (o := .cells #[.int .i64 0, .int .i64 0] 44 (0, 0)) (by (with_reducible repeat (first | refine blk_drewN ?_ _ | refine blk_drew ?_ | refine blk_alloc ?_ _)); exact BK123.out) hb); have n1_ := Aside0.mk (below_step (by repeat (first | (with_reducible first | exact HB.out | apply below_alloc | apply pw_below_drewN | apply below_drew1 | refine below_set ?_ GE123.out) | exact HB.out)) hb); have n2_ := Aside0.mk (hbox); have n3_ := Aside0.mk ((by rw [hg]; exact (below_size (by repeat (first | (with_reducible first | exact HB.out | apply below_alloc | apply pw_below_drewN | apply below_drew1 | refine below_set ?_ GE123.out) | exact HB.out))) : w.heap.size ≤ gb125)); have n4_ := Aside0.mk ((by rw [hg]; exact (below_size (by repeat (first | (with_reducible first | exact HB.out | apply below_alloc | apply pw_below_drewN | apply below_drew1 | refine below_set ?_ GE123.out) | exact HB.out))) : w.heap.size ≤ gb125)); have n5_ := Aside0.mk ((by rw [hg]; exact Nat.ne_of_lt (blk_lt (g := gb123) (o := .cells #[.int .i64 0, .int .i64 0] 44 (0, 0)) (by (with_reducible repeat (first | refine blk_drewN ?_ _ | refine blk_drew ?_ | refine blk_alloc ?_ _)); exact BK123.out)) : gb123 ≠ gb125)); have n6_ := Aside0.mk ((by rw [hg]; exact Nat.ne_of_gt (blk_lt (g := gb123) (o := .cells #[.int .i64 0, .int .i64 0] 44 (0, 0)) (by (with_reducible repeat (first | refine blk_drewN ?_ _ | refine blk_drew ?_ | refine blk_alloc ?_ _)); exact BK123.out)) : gb125 ≠ gb123)); clear BK123; clear HB; have BK123 := n0_; have HB := n1_; have BK125 := n2_; have GW125 := n3_; have GE125 := n4_; have NB123_125 := n5_; have NB125_123 := n6_; clear n0_ n1_ n2_ n3_ n4_ n5_ n6_; clear hb hbox hg) | ((with_reducible refine gate_callee (f := 52) rfl ?_); refine goesL_ (some 15) rfl rfl Tryd.func52 (by kernel_rfl) rfl #[.slice A0 l0.length c0] rfl (by (try simp only [List.map_toArray, List.map_cons, List.map_nil]); first | done | rfl | (simp only [List.length_drop, List.length_take]; rfl)) ?_; (with_reducible refine (words_runs.calls _ _ l0 t126 _ ?side1 ?side2 ?side3 A7.out).mono ?_); (case side1 => repeat (first | exact (Kd.C_below HR0.out HB.out) | (with_reducible refine Kd.C_alloc ?_ _) | (with_reducible refine Kd.C_drewN ?_ _) | (with_reducible refine Kd.C_drew ?_))); (case side2 => exact HC0.out); (case side3 => exact laid_below HLB.out (by repeat (first | (with_reducible first | exact HB.out | apply below_alloc | apply pw_below_drewN | apply below_drew1 | refine below_set ?_ GE123.out | refine below_set ?_ GE125.out) | exact HB.out))); rintro e w10 ⟨v127, rfl, ho0, hb⟩; refine ⟨_, rfl, ?_⟩; have n0_ := Aside0.mk (Kd.R_lower (Kd.R_newB ho0 (g := gb125) (o := .cells #[.int .i64 0, .int .i64 0, .int .i64 0] 109 (0, 0)) (by (with_reducible repeat (first | refine blk_drewN ?_ _ | refine blk_drew ?_ | refine blk_alloc ?_ _)); exact BK125.out)) (below_size (by repeat (first | (with_reducible first | exact HB.out | apply below_alloc | apply pw_below_drewN | apply below_drew1 | refine below_set ?_ GE123.out | refine below_set ?_ GE125.out) | exact HB.out)))); have n1_ := Aside0.mk (blk_below (g := gb123) (o := .cells #[.int .i64 0, .int .i64 0] 44 (0, 0)) (by (with_reducible repeat (first | refine blk_drewN ?_ _ | refine blk_drew ?_ | refine blk_alloc ?_ _)); exact BK123.out) hb); have n2_ := Aside0.mk (blk_below (g := gb125) (o := .cells #[.int .i64 0, .int .i64 0, .int .i64 0] 109 (0, 0)) (by (with_reducible repeat (first | refine blk_drewN ?_ _ | refine blk_drew ?_ | refine blk_alloc ?_ _)); exact BK125.out) hb); have n3_ := Aside0.mk (below_step (by repeat (first | (with_reducible first | exact HB.out | apply below_alloc | apply pw_below_drewN | apply below_drew1 | refine below_set ?_ GE123.out | refine below_set ?_ GE125.out) | exact HB.out)) hb); clear BK123; clear BK125; clear HB; have HO128 := n0_; have BK123 := n1_; have BK125 := n2_; have HB := n3_; clear n0_ n1_ n2_ n3_; (try clear hb); (try clear hb2); (try clear hk); (try clear hi); (try clear ho0); obtain ⟨Ao11, co11, eo11⟩ := Kd.R_slice HO128.out; subst eo11))
  go_loopg [17] k (fun kq v17 w' => ∃ (x17_1 : Int) (x126000_1 : Int) (x126001_1 : Int) (x126002_1 : Int), v17 = .int .i64 x17_1 ∧ Aside0 (words_Around.l0 kq a1 t126 (t126.length : Int) x17_1 x126000_1 x126001_1 x126002_1 = some (r1, r2, r3, r4)) ∧ Aside0 (kq ≤ k) ∧ Aside0 (Kd.R k109 109 w' w.heap.size (fun k_ => k_ ≠ gb125) (.slice Ao11 t126.length co11) t126) ∧ Aside0 (w'.heap[gb123]? = some (.cells #[.int .i64 0, .int .i64 0] 44 (0, 0))) ∧ Aside0 (w'.heap[gb125]? = some (.cells #[.int .i64 x126000_1, .int .i64 x126001_1, .int .i64 x126002_1] 109 (0, 0))) ∧ Aside0 (Below w.heap.size w w'))
  case atStart => exact ⟨(0), (0), (0), (0), (by first | rfl | (simp; done) | (simp [*]; done)), H', ⟨Nat.le_refl _⟩, ⟨by (with_reducible repeat (first | apply Kd.R_alloc | apply Kd.R_drewN | apply Kd.R_drew)); exact Kd.R_mono HO128.out (fun _ hk => hk.2)⟩, ⟨by (with_reducible repeat (first | refine blk_drewN ?_ _ | refine blk_drew ?_ | refine blk_alloc ?_ _)); exact BK123.out⟩, ⟨by (with_reducible repeat (first | refine blk_drewN ?_ _ | refine blk_drew ?_ | refine blk_alloc ?_ _)); exact BK125.out⟩, ⟨by repeat (first | (with_reducible first | exact HB.out | apply below_alloc | apply pw_below_drewN | apply below_drew1 | refine below_set ?_ GE123.out | refine below_set ?_ GE125.out) | exact HB.out)⟩⟩
  case round =>
   clear H'
   try clear c2
   try clear p2
   try clear c4
   try clear c5
   try clear hcz6_0
   try clear hcz6_1
   try clear hfz6_0
   try clear hfz6_1
   obtain ⟨x17_1, x126000_1, x126001_1, x126002_1, rfl, HA, HK1, HO_15, BK123, BK125, HB⟩ := hrel
   cases gk with
   | zero => exact absurd HA.out (by simp [words_Around.l0])
   | succ k1 =>
    have H := HA.out
    clear HA
    simp only [words_Around.l0] at H
    by_cases c12 : x17_1 < (t126.length : Int)
    ·rw [if_pos c12] at H
     have c12b0 : decide (x17_1 < (t126.length : Int)) = true := decide_eq_true c12
     clear c12
     by_cases c13 : 0 ≤ x17_1
     ·rw [if_pos c13] at H
      have c13b0 : decide (0 ≤ x17_1) = true := decide_eq_true c13
      clear c13
      by_cases c14 : x17_1 < (t126.length : Int)
      ·rw [if_pos c14] at H
       have c14b0 : decide (x17_1 < (t126.length : Int)) = true := decide_eq_true c14
       clear c14
       by_cases c15 : a1 < ((rd_T109 t126 x17_1).f0.f1)
       ·rw [if_pos c15] at H
        have c15b0 : decide (a1 < ((rd_T109 t126 x17_1).f0.f1)) = true := decide_eq_true c15
        clear c15
        simp only [Option.some.injEq, Prod.mk.injEq] at H
        obtain ⟨rfl, rfl, rfl, rfl⟩ := H
        have p129 : 0 ≤ (x17_1 : Int) := of_decide_eq_true (by first | (with_reducible assumption) | assumption)
        have q129 : x17_1 < (t126.length : Int) := of_decide_eq_true (by first | (with_reducible assumption) | assumption)
        obtain ⟨ad129, e129, hx129_0, hx129_1, hx129_2⟩ := at_T109 (Kd.R_reads' HO_15.out).2.2 x17_1 p129 q129
        cases e129
        replace p129 := eq_true p129
        replace q129 := eq_true q129
        try go_wp2_with (first | ((with_reducible refine gate_dst (N := 9) rfl ?_); refine box_event ?hg (N := 9) ?hd (cs := #[.int .i64 0, .int .i64 0, .int .i64 0]) (t := 109) ?hr ?_; (case hd => rfl); (case hg => rfl); (case hr => first | (go_simp; done) | (go_simp; rfl)); intro gb130 hg w16 hbox hb; have n0_ := Aside0.mk (Kd.R_below (Kd.R_elderB (by (with_reducible repeat (first | apply Kd.R_alloc | apply Kd.R_drewN | apply Kd.R_drew)); exact HO_15.out) gb130 (Nat.le_of_eq hg.symm)) hb); have n1_ := Aside0.mk (blk_below (g := gb123) (o := .cells #[.int .i64 0, .int .i64 0] 44 (0, 0)) (by (with_reducible repeat (first | refine blk_drewN ?_ _ | refine blk_drew ?_ | refine blk_alloc ?_ _)); exact BK123.out) hb); have n2_ := Aside0.mk (blk_below (g := gb125) (o := .cells #[.int .i64 x126000_1, .int .i64 x126001_1, .int .i64 x126002_1] 109 (0, 0)) (by (with_reducible repeat (first | refine blk_drewN ?_ _ | refine blk_drew ?_ | refine blk_alloc ?_ _)); exact BK125.out) hb); have n3_ := Aside0.mk (below_step (by repeat (first | (with_reducible first | exact HB.out | apply below_alloc | apply pw_below_drewN | apply below_drew1 | refine below_set ?_ GE123.out | refine below_set ?_ GE125.out) | exact HB.out)) hb); have n4_ := Aside0.mk (hbox); have n5_ := Aside0.mk ((by rw [hg]; exact (below_size (by repeat (first | (with_reducible first | exact HB.out | apply below_alloc | apply pw_below_drewN | apply below_drew1 | refine below_set ?_ GE123.out | refine below_set ?_ GE125.out) | exact HB.out))) : w.heap.size ≤ gb130)); have n6_ := Aside0.mk ((by rw [hg]; exact (below_size (by repeat (first | (with_reducible first | exact HB.out | apply below_alloc | apply pw_below_drewN | apply below_drew1 | refine below_set ?_ GE123.out | refine below_set ?_ GE125.out) | exact HB.out))) : w.heap.size ≤ gb130)); have n7_ := Aside0.mk ((by rw [hg]; exact Nat.ne_of_lt (blk_lt (g := gb123) (o := .cells #[.int .i64 0, .int .i64 0] 44 (0, 0)) (by (with_reducible repeat (first | refine blk_drewN ?_ _ | refine blk_drew ?_ | refine blk_alloc ?_ _)); exact BK123.out)) : gb123 ≠ gb130)); have n8_ := Aside0.mk ((by rw [hg]; exact Nat.ne_of_gt (blk_lt (g := gb123) (o := .cells #[.int .i64 0, .int .i64 0] 44 (0, 0)) (by (with_reducible repeat (first | refine blk_drewN ?_ _ | refine blk_drew ?_ | refine blk_alloc ?_ _)); exact BK123.out)) : gb130 ≠ gb123)); have n9_ := Aside0.mk ((by rw [hg]; exact Nat.ne_of_lt (blk_lt (g := gb125) (o := .cells #[.int .i64 x126000_1, .int .i64 x126001_1, .int .i64 x126002_1] 109 (0, 0)) (by (with_reducible repeat (first | refine blk_drewN ?_ _ | refine blk_drew ?_ | refine blk_alloc ?_ _)); exact BK125.out)) : gb125 ≠ gb130)); have n10_ := Aside0.mk ((by rw [hg]; exact Nat.ne_of_gt (blk_lt (g := gb125) (o := .cells #[.int .i64 x126000_1, .int .i64 x126001_1, .int .i64 x126002_1] 109 (0, 0)) (by (with_reducible repeat (first | refine blk_drewN ?_ _ | refine blk_drew ?_ | refine blk_alloc ?_ _)); exact BK125.out)) : gb130 ≠ gb125)); clear HO_15; clear BK123; clear BK125; clear HB; have HO_15 := n0_; have BK123 := n1_; have BK125 := n2_; have HB := n3_; have BK130 := n4_; have GW130 := n5_; have GE130 := n6_; have NB123_130 := n7_; have NB130_123 := n8_; have NB125_130 := n9_; have NB130_125 := n10_; clear n0_ n1_ n2_ n3_ n4_ n5_ n6_ n7_ n8_ n9_ n10_; clear hb hbox hg; have hnb17 := NB130_123.out; have hnc17 := NB123_130.out; have hnb18 := NB130_125.out; have hnc18 := NB125_130.out; have hcz19_0 : w16.cell? ⟨gb130, 0, none⟩ = some (.int .i64 0) := (blk_cell BK130.out 0).trans rfl; have hcz19_1 : w16.cell? ⟨gb130, 1, none⟩ = some (.int .i64 0) := (blk_cell BK130.out 1).trans rfl; have hcz19_2 : w16.cell? ⟨gb130, 2, none⟩ = some (.int .i64 0) := (blk_cell BK130.out 2).trans rfl; have hfz19_0 := blk_frozen BK130.out 0; have hfz19_1 := blk_frozen BK130.out 1; have hfz19_2 := blk_frozen BK130.out 2; have hnb20 := NB125_123.out; have hnc20 := NB123_125.out; have hcz21_0 : w16.cell? ⟨gb125, 0, none⟩ = some (.int .i64 x126000_1) := (blk_cell BK125.out 0).trans rfl; have hcz21_1 : w16.cell? ⟨gb125, 1, none⟩ = some (.int .i64 x126001_1) := (blk_cell BK125.out 1).trans rfl; have hcz21_2 : w16.cell? ⟨gb125, 2, none⟩ = some (.int .i64 x126002_1) := (blk_cell BK125.out 2).trans rfl; have hfz21_0 := blk_frozen BK125.out 0; have hfz21_1 := blk_frozen BK125.out 1; have hfz21_2 := blk_frozen BK125.out 2))
        have n0_ : Aside0 (Kd.R k109 109 ((((((w16.setCell ⟨gb130, 0, none⟩ (.int .i64 ((rd_T109 t126 x17_1).f0.f0))).setCell ⟨gb130, 1, none⟩ (.int .i64 ((rd_T109 t126 x17_1).f0.f1))).setCell ⟨gb130, 2, none⟩ (.int .i64 ((rd_T109 t126 x17_1).f1))).setCell ⟨gb125, 0, none⟩ (.int .i64 ((rd_T109 t126 x17_1).f0.f0))).setCell ⟨gb125, 1, none⟩ (.int .i64 ((rd_T109 t126 x17_1).f0.f1))).setCell ⟨gb125, 2, none⟩ (.int .i64 ((rd_T109 t126 x17_1).f1))) w.heap.size (fun k_ => k_ ≠ gb125 ∧ k_ ≠ gb130) (.slice (some ad129) t126.length co11) t126) := ⟨by (with_reducible repeat (first | apply Kd.R_alloc | apply Kd.R_drewN | apply Kd.R_drew)); exact Kd.R_mono (Kd.R_far (p := ⟨gb125, 2, none⟩) (Kd.R_far (p := ⟨gb125, 1, none⟩) (Kd.R_far (p := ⟨gb125, 0, none⟩) (Kd.R_far (p := ⟨gb130, 2, none⟩) (Kd.R_far (p := ⟨gb130, 1, none⟩) (Kd.R_far (p := ⟨gb130, 0, none⟩) (Kd.R_mono (Kd.R_mono HO_15.out (fun k_ hk => (⟨hk, hk.2⟩ : _ ∧ k_ ≠ gb130))) (fun k_ hk => (⟨hk, hk.1.1⟩ : _ ∧ k_ ≠ gb125))) (fun _ hk => hk.1.2) (.int .i64 ((rd_T109 t126 x17_1).f0.f0))) (fun _ hk => hk.1.2) (.int .i64 ((rd_T109 t126 x17_1).f0.f1))) (fun _ hk => hk.1.2) (.int .i64 ((rd_T109 t126 x17_1).f1))) (fun _ hk => hk.2) (.int .i64 ((rd_T109 t126 x17_1).f0.f0))) (fun _ hk => hk.2) (.int .i64 ((rd_T109 t126 x17_1).f0.f1))) (fun _ hk => hk.2) (.int .i64 ((rd_T109 t126 x17_1).f1))) (fun _ hk => ⟨hk.1.1.1, hk.1.1.2⟩)⟩
        have n1_ : Aside0 (((((((w16.setCell ⟨gb130, 0, none⟩ (.int .i64 ((rd_T109 t126 x17_1).f0.f0))).setCell ⟨gb130, 1, none⟩ (.int .i64 ((rd_T109 t126 x17_1).f0.f1))).setCell ⟨gb130, 2, none⟩ (.int .i64 ((rd_T109 t126 x17_1).f1))).setCell ⟨gb125, 0, none⟩ (.int .i64 ((rd_T109 t126 x17_1).f0.f0))).setCell ⟨gb125, 1, none⟩ (.int .i64 ((rd_T109 t126 x17_1).f0.f1))).setCell ⟨gb125, 2, none⟩ (.int .i64 ((rd_T109 t126 x17_1).f1))).heap[gb123]? = some (.cells #[.int .i64 0, .int .i64 0] 44 (0, 0))) := ⟨by (with_reducible repeat (first | refine blk_drewN ?_ _ | refine blk_drew ?_ | refine blk_alloc ?_ _)); refine blk_far ?_ NB123_125.out _; (with_reducible repeat (first | refine blk_drewN ?_ _ | refine blk_drew ?_ | refine blk_alloc ?_ _)); refine blk_far ?_ NB123_125.out _; (with_reducible repeat (first | refine blk_drewN ?_ _ | refine blk_drew ?_ | refine blk_alloc ?_ _)); refine blk_far ?_ NB123_125.out _; (with_reducible repeat (first | refine blk_drewN ?_ _ | refine blk_drew ?_ | refine blk_alloc ?_ _)); refine blk_far ?_ NB123_130.out _; (with_reducible repeat (first | refine blk_drewN ?_ _ | refine blk_drew ?_ | refine blk_alloc ?_ _)); refine blk_far ?_ NB123_130.out _; (with_reducible repeat (first | refine blk_drewN ?_ _ | refine blk_drew ?_ | refine blk_alloc ?_ _)); refine blk_far ?_ NB123_130.out _; (with_reducible repeat (first | refine blk_drewN ?_ _ | refine blk_drew ?_ | refine blk_alloc ?_ _)); exact BK123.out⟩
        have n2_ : Aside0 (((((((w16.setCell ⟨gb130, 0, none⟩ (.int .i64 ((rd_T109 t126 x17_1).f0.f0))).setCell ⟨gb130, 1, none⟩ (.int .i64 ((rd_T109 t126 x17_1).f0.f1))).setCell ⟨gb130, 2, none⟩ (.int .i64 ((rd_T109 t126 x17_1).f1))).setCell ⟨gb125, 0, none⟩ (.int .i64 ((rd_T109 t126 x17_1).f0.f0))).setCell ⟨gb125, 1, none⟩ (.int .i64 ((rd_T109 t126 x17_1).f0.f1))).setCell ⟨gb125, 2, none⟩ (.int .i64 ((rd_T109 t126 x17_1).f1))).heap[gb125]? = some (.cells #[.int .i64 ((rd_T109 t126 x17_1).f0.f0), .int .i64 ((rd_T109 t126 x17_1).f0.f1), .int .i64 ((rd_T109 t126 x17_1).f1)] 109 (0, 0))) := ⟨by (with_reducible repeat (first | refine blk_drewN ?_ _ | refine blk_drew ?_ | refine blk_alloc ?_ _)); refine blk_put (cs := #[.int .i64 ((rd_T109 t126 x17_1).f0.f0), .int .i64 ((rd_T109 t126 x17_1).f0.f1), .int .i64 x126002_1]) ?_ 2 _ rfl; (with_reducible repeat (first | refine blk_drewN ?_ _ | refine blk_drew ?_ | refine blk_alloc ?_ _)); refine blk_put (cs := #[.int .i64 ((rd_T109 t126 x17_1).f0.f0), .int .i64 x126001_1, .int .i64 x126002_1]) ?_ 1 _ rfl; (with_reducible repeat (first | refine blk_drewN ?_ _ | refine blk_drew ?_ | refine blk_alloc ?_ _)); refine blk_put (cs := #[.int .i64 x126000_1, .int .i64 x126001_1, .int .i64 x126002_1]) ?_ 0 _ rfl; (with_reducible repeat (first | refine blk_drewN ?_ _ | refine blk_drew ?_ | refine blk_alloc ?_ _)); refine blk_far ?_ NB125_130.out _; (with_reducible repeat (first | refine blk_drewN ?_ _ | refine blk_drew ?_ | refine blk_alloc ?_ _)); refine blk_far ?_ NB125_130.out _; (with_reducible repeat (first | refine blk_drewN ?_ _ | refine blk_drew ?_ | refine blk_alloc ?_ _)); refine blk_far ?_ NB125_130.out _; (with_reducible repeat (first | refine blk_drewN ?_ _ | refine blk_drew ?_ | refine blk_alloc ?_ _)); exact BK125.out⟩
        have n3_ : Aside0 (((((((w16.setCell ⟨gb130, 0, none⟩ (.int .i64 ((rd_T109 t126 x17_1).f0.f0))).setCell ⟨gb130, 1, none⟩ (.int .i64 ((rd_T109 t126 x17_1).f0.f1))).setCell ⟨gb130, 2, none⟩ (.int .i64 ((rd_T109 t126 x17_1).f1))).setCell ⟨gb125, 0, none⟩ (.int .i64 ((rd_T109 t126 x17_1).f0.f0))).setCell ⟨gb125, 1, none⟩ (.int .i64 ((rd_T109 t126 x17_1).f0.f1))).setCell ⟨gb125, 2, none⟩ (.int .i64 ((rd_T109 t126 x17_1).f1))).heap[gb130]? = some (.cells #[.int .i64 ((rd_T109 t126 x17_1).f0.f0), .int .i64 ((rd_T109 t126 x17_1).f0.f1), .int .i64 ((rd_T109 t126 x17_1).f1)] 109 (0, 0))) := ⟨by (with_reducible repeat (first | refine blk_drewN ?_ _ | refine blk_drew ?_ | refine blk_alloc ?_ _)); refine blk_far ?_ NB130_125.out _; (with_reducible repeat (first | refine blk_drewN ?_ _ | refine blk_drew ?_ | refine blk_alloc ?_ _)); refine blk_far ?_ NB130_125.out _; (with_reducible repeat (first | refine blk_drewN ?_ _ | refine blk_drew ?_ | refine blk_alloc ?_ _)); refine blk_far ?_ NB130_125.out _; (with_reducible repeat (first | refine blk_drewN ?_ _ | refine blk_drew ?_ | refine blk_alloc ?_ _)); refine blk_put (cs := #[.int .i64 ((rd_T109 t126 x17_1).f0.f0), .int .i64 ((rd_T109 t126 x17_1).f0.f1), .int .i64 0]) ?_ 2 _ rfl; (with_reducible repeat (first | refine blk_drewN ?_ _ | refine blk_drew ?_ | refine blk_alloc ?_ _)); refine blk_put (cs := #[.int .i64 ((rd_T109 t126 x17_1).f0.f0), .int .i64 0, .int .i64 0]) ?_ 1 _ rfl; (with_reducible repeat (first | refine blk_drewN ?_ _ | refine blk_drew ?_ | refine blk_alloc ?_ _)); refine blk_put (cs := #[.int .i64 0, .int .i64 0, .int .i64 0]) ?_ 0 _ rfl; (with_reducible repeat (first | refine blk_drewN ?_ _ | refine blk_drew ?_ | refine blk_alloc ?_ _)); exact BK130.out⟩
        have n4_ : Aside0 (Below w.heap.size w ((((((w16.setCell ⟨gb130, 0, none⟩ (.int .i64 ((rd_T109 t126 x17_1).f0.f0))).setCell ⟨gb130, 1, none⟩ (.int .i64 ((rd_T109 t126 x17_1).f0.f1))).setCell ⟨gb130, 2, none⟩ (.int .i64 ((rd_T109 t126 x17_1).f1))).setCell ⟨gb125, 0, none⟩ (.int .i64 ((rd_T109 t126 x17_1).f0.f0))).setCell ⟨gb125, 1, none⟩ (.int .i64 ((rd_T109 t126 x17_1).f0.f1))).setCell ⟨gb125, 2, none⟩ (.int .i64 ((rd_T109 t126 x17_1).f1)))) := ⟨by repeat (first | (with_reducible first | exact HB.out | apply below_alloc | apply pw_below_drewN | apply below_drew1 | refine below_set ?_ GE123.out | refine below_set ?_ GE125.out | refine below_set ?_ GE130.out) | exact HB.out)⟩
        (try clear HO_15)
        (try clear BK123)
        (try clear BK125)
        (try clear BK130)
        (try clear HB)
        generalize ((((((w16.setCell ⟨gb130, 0, none⟩ (.int .i64 ((rd_T109 t126 x17_1).f0.f0))).setCell ⟨gb130, 1, none⟩ (.int .i64 ((rd_T109 t126 x17_1).f0.f1))).setCell ⟨gb130, 2, none⟩ (.int .i64 ((rd_T109 t126 x17_1).f1))).setCell ⟨gb125, 0, none⟩ (.int .i64 ((rd_T109 t126 x17_1).f0.f0))).setCell ⟨gb125, 1, none⟩ (.int .i64 ((rd_T109 t126 x17_1).f0.f1))).setCell ⟨gb125, 2, none⟩ (.int .i64 ((rd_T109 t126 x17_1).f1))) = w22 at n0_ n1_ n2_ n3_ n4_ ⊢
        have HO_15 := n0_
        have BK123 := n1_
        have BK125 := n2_
        have BK130 := n3_
        have HB := n4_
        clear n0_ n1_ n2_ n3_ n4_
        have n0_ := Aside0.mk (Kd.R_drew HO_15.out)
        have n1_ := Aside0.mk (blk_drew BK123.out)
        have n2_ := Aside0.mk (blk_drew BK125.out)
        have n3_ := Aside0.mk (blk_drew BK130.out)
        have n4_ := Aside0.mk (below_drew1 HB.out)
        clear HO_15 BK123 BK125 BK130 HB
        have HO_15 := n0_
        have BK123 := n1_
        have BK125 := n2_
        have BK130 := n3_
        have HB := n4_
        clear n0_ n1_ n2_ n3_ n4_
        refine start_ (n := 7) (S := fun w' => w'.cell? ⟨gb125, 0, none⟩ = some (.int .i64 ((rd_T109 t126 x17_1).f0.f0)) ∧ w'.cell? ⟨gb125, 1, none⟩ = some (.int .i64 ((rd_T109 t126 x17_1).f0.f1)) ∧ w'.cell? ⟨gb125, 2, none⟩ = some (.int .i64 ((rd_T109 t126 x17_1).f1))) (ds := []) #[false, false, false, false, false, false, false] (by kernel_rfl) rfl rfl ⟨(blk_cell BK125.out 0).trans rfl, (blk_cell BK125.out 1).trans rfl, (blk_cell BK125.out 2).trans rfl⟩ (fun hHeld => ?_)
        generalize w22.drew = w23 at HO_15 BK123 BK125 BK130 HB hHeld ⊢
        refine pure_ (i := 0) (N := some 28) (v := ?_) (a' := ?_) #[true, false, false, false, false, false, false] rfl rfl (by kernel_rfl) (fun _ _ _ h => h) (Or.inl ⟨by rfl, ?_⟩) ?_ ?_
        rotate_left; ·(intro w'; go_simp; with_reducible rfl)
        rotate_left; ·(simp only [Act.put, List.setIfInBounds_toArray, List.set_cons_zero, List.set_cons_succ, i64_w, i32_w]; rfl)
        refine pure_ (i := 2) (N := some 30) (v := ?_) (a' := ?_) #[true, false, true, false, false, false, false] rfl rfl (by kernel_rfl) (fun _ _ _ h => h) (Or.inl ⟨by rfl, ?_⟩) ?_ ?_
        rotate_left; ·(intro w'; go_simp; with_reducible rfl)
        rotate_left; ·(simp only [Act.put, List.setIfInBounds_toArray, List.set_cons_zero, List.set_cons_succ, i64_w, i32_w]; rfl)
        refine take_ (i := 1) (N := some 29) (v := ?_) (a' := ?_) #[true, true, true, false, false, false, false] rfl rfl (by kernel_rfl) (fun _ _ _ h => h) (Or.inl ⟨by rfl, ?_⟩) hHeld ?_ ?_
        rotate_left
        ·rintro w' ⟨s0, s1, s2⟩
         go_simp
         with_reducible rfl
        rotate_left; ·(simp only [Act.put, List.setIfInBounds_toArray, List.set_cons_zero, List.set_cons_succ, i64_w, i32_w]; rfl)
        refine take_ (i := 3) (N := some 31) (v := ?_) (a' := ?_) #[true, true, true, true, false, false, false] rfl rfl (by kernel_rfl) (fun _ _ _ h => h) (Or.inl ⟨by rfl, ?_⟩) hHeld ?_ ?_
        rotate_left
        ·rintro w' ⟨s0, s1, s2⟩
         go_simp
         with_reducible rfl
        rotate_left; ·(simp only [Act.put, List.setIfInBounds_toArray, List.set_cons_zero, List.set_cons_succ, i64_w, i32_w]; rfl)
        refine one_ (i := 4) (N := none) #[true, true, true, true, true, false, false] rfl rfl (by kernel_rfl) (by decide) (fun K hK => ?_)
        have hs24 : w23.cell? ⟨gb123, 0, none⟩ = some (.int .i64 0) := (blk_cell BK123.out 0).trans rfl
        have hfs24 := blk_frozen BK123.out 0
        have hns24_1 := NB125_123.out
        have hns24_2 := NB130_123.out
        have hms24_1 := NB123_125.out
        have hms24_2 := NB123_130.out
        have hs25 : w23.cell? ⟨gb123, 1, none⟩ = some (.int .i64 0) := (blk_cell BK123.out 1).trans rfl
        have hfs25 := blk_frozen BK123.out 1
        have hns25_1 := NB125_123.out
        have hns25_2 := NB130_123.out
        have hms25_1 := NB123_125.out
        have hms25_2 := NB123_130.out
        refine skip_ (w1 := ?_) (by rfl) rfl ?_ ?_
        rotate_left
        ·go_simp
         rfl
        refine hK.out _ _ ⟨((cell_far (p := ⟨gb123, _, none⟩) NB125_123.out _).trans (((cell_far (p := ⟨gb123, _, none⟩) NB125_123.out _).trans (hHeld.1)))), ((cell_far (p := ⟨gb123, _, none⟩) NB125_123.out _).trans (((cell_far (p := ⟨gb123, _, none⟩) NB125_123.out _).trans (hHeld.2.1)))), ((cell_far (p := ⟨gb123, _, none⟩) NB125_123.out _).trans (((cell_far (p := ⟨gb123, _, none⟩) NB125_123.out _).trans (hHeld.2.2))))⟩ (fun hHeld => ?_)
        clear hK K
        refine pure_ (i := 5) (N := some 5) (v := ?_) (a' := ?_) #[true, true, true, true, true, true, false] rfl rfl (by kernel_rfl) (fun _ _ _ h => h) (Or.inl ⟨by rfl, ?_⟩) ?_ ?_
        rotate_left; ·(intro w'; go_simp; with_reducible rfl)
        rotate_left; ·(simp only [Act.put, List.setIfInBounds_toArray, List.set_cons_zero, List.set_cons_succ, i64_w, i32_w]; rfl)
        refine pure_ (i := 6) (N := some 6) (v := ?_) (a' := ?_) #[true, true, true, true, true, true, true] rfl rfl (by kernel_rfl) (fun _ _ _ h => h) (Or.inl ⟨by rfl, ?_⟩) ?_ ?_
        rotate_left; ·(intro w'; go_simp; with_reducible rfl)
        rotate_left; ·(simp only [Act.put, List.setIfInBounds_toArray, List.set_cons_zero, List.set_cons_succ, i64_w, i32_w]; rfl)
        refine done_ (by kernel_rfl) ?_
        try go_wp2
        refine bodyPost_ret (results_ctt rfl _ _ gb123 44 #[.int .i64 ((rd_T109 t126 x17_1).f0.f0), .int .i64 ((rd_T109 t126 x17_1).f0.f1)] (0, 0) _ rfl (by (with_reducible repeat (first | refine blk_drewN ?_ _ | refine blk_drew ?_ | refine blk_alloc ?_ _)); refine blk_put (cs := #[.int .i64 ((rd_T109 t126 x17_1).f0.f0), .int .i64 0]) ?_ 1 _ rfl; (with_reducible repeat (first | refine blk_drewN ?_ _ | refine blk_drew ?_ | refine blk_alloc ?_ _)); refine blk_put (cs := #[.int .i64 0, .int .i64 0]) ?_ 0 _ rfl; (with_reducible repeat (first | refine blk_drewN ?_ _ | refine blk_drew ?_ | refine blk_alloc ?_ _)); exact BK123.out) Tryd.underlying44 rfl (by kernel_rfl)) rfl ?_
        exact ⟨by first | rfl | (simp [errW_none, errW_some] <;> rfl) | (simp [*, errW_none, errW_some] <;> rfl), by repeat (first | (with_reducible first | exact HB.out | apply below_alloc | apply pw_below_drewN | apply below_drew1 | refine below_set ?_ GE123.out | refine below_set ?_ GE125.out | refine below_set ?_ GE130.out) | exact HB.out)⟩
       ·rw [if_neg c15] at H
        have c15b0 : decide (a1 < ((rd_T109 t126 x17_1).f0.f1)) = false := decide_eq_false c15
        clear c15
        have H' := Aside0.mk H
        clear H
        have p129 : 0 ≤ (x17_1 : Int) := of_decide_eq_true (by first | (with_reducible assumption) | assumption)
        have q129 : x17_1 < (t126.length : Int) := of_decide_eq_true (by first | (with_reducible assumption) | assumption)
        obtain ⟨ad129, e129, hx129_0, hx129_1, hx129_2⟩ := at_T109 (Kd.R_reads' HO_15.out).2.2 x17_1 p129 q129
        cases e129
        replace p129 := eq_true p129
        replace q129 := eq_true q129
        go_wp2_with (first | ((with_reducible refine gate_dst (N := 9) rfl ?_); refine box_event ?hg (N := 9) ?hd (cs := #[.int .i64 0, .int .i64 0, .int .i64 0]) (t := 109) ?hr ?_; (case hd => rfl); (case hg => rfl); (case hr => first | (go_simp; done) | (go_simp; rfl)); intro gb130 hg w26 hbox hb; have n0_ := Aside0.mk (Kd.R_below (Kd.R_elderB (by (with_reducible repeat (first | apply Kd.R_alloc | apply Kd.R_drewN | apply Kd.R_drew)); exact HO_15.out) gb130 (Nat.le_of_eq hg.symm)) hb); have n1_ := Aside0.mk (blk_below (g := gb123) (o := .cells #[.int .i64 0, .int .i64 0] 44 (0, 0)) (by (with_reducible repeat (first | refine blk_drewN ?_ _ | refine blk_drew ?_ | refine blk_alloc ?_ _)); exact BK123.out) hb); have n2_ := Aside0.mk (blk_below (g := gb125) (o := .cells #[.int .i64 x126000_1, .int .i64 x126001_1, .int .i64 x126002_1] 109 (0, 0)) (by (with_reducible repeat (first | refine blk_drewN ?_ _ | refine blk_drew ?_ | refine blk_alloc ?_ _)); exact BK125.out) hb); have n3_ := Aside0.mk (below_step (by repeat (first | (with_reducible first | exact HB.out | apply below_alloc | apply pw_below_drewN | apply below_drew1 | refine below_set ?_ GE123.out | refine below_set ?_ GE125.out) | exact HB.out)) hb); have n4_ := Aside0.mk (hbox); have n5_ := Aside0.mk ((by rw [hg]; exact (below_size (by repeat (first | (with_reducible first | exact HB.out | apply below_alloc | apply pw_below_drewN | apply below_drew1 | refine below_set ?_ GE123.out | refine below_set ?_ GE125.out) | exact HB.out))) : w.heap.size ≤ gb130)); have n6_ := Aside0.mk ((by rw [hg]; exact (below_size (by repeat (first | (with_reducible first | exact HB.out | apply below_alloc | apply pw_below_drewN | apply below_drew1 | refine below_set ?_ GE123.out | refine below_set ?_ GE125.out) | exact HB.out))) : w.heap.size ≤ gb130)); have n7_ := Aside0.mk ((by rw [hg]; exact Nat.ne_of_lt (blk_lt (g := gb123) (o := .cells #[.int .i64 0, .int .i64 0] 44 (0, 0)) (by (with_reducible repeat (first | refine blk_drewN ?_ _ | refine blk_drew ?_ | refine blk_alloc ?_ _)); exact BK123.out)) : gb123 ≠ gb130)); have n8_ := Aside0.mk ((by rw [hg]; exact Nat.ne_of_gt (blk_lt (g := gb123) (o := .cells #[.int .i64 0, .int .i64 0] 44 (0, 0)) (by (with_reducible repeat (first | refine blk_drewN ?_ _ | refine blk_drew ?_ | refine blk_alloc ?_ _)); exact BK123.out)) : gb130 ≠ gb123)); have n9_ := Aside0.mk ((by rw [hg]; exact Nat.ne_of_lt (blk_lt (g := gb125) (o := .cells #[.int .i64 x126000_1, .int .i64 x126001_1, .int .i64 x126002_1] 109 (0, 0)) (by (with_reducible repeat (first | refine blk_drewN ?_ _ | refine blk_drew ?_ | refine blk_alloc ?_ _)); exact BK125.out)) : gb125 ≠ gb130)); have n10_ := Aside0.mk ((by rw [hg]; exact Nat.ne_of_gt (blk_lt (g := gb125) (o := .cells #[.int .i64 x126000_1, .int .i64 x126001_1, .int .i64 x126002_1] 109 (0, 0)) (by (with_reducible repeat (first | refine blk_drewN ?_ _ | refine blk_drew ?_ | refine blk_alloc ?_ _)); exact BK125.out)) : gb130 ≠ gb125)); clear HO_15; clear BK123; clear BK125; clear HB; have HO_15 := n0_; have BK123 := n1_; have BK125 := n2_; have HB := n3_; have BK130 := n4_; have GW130 := n5_; have GE130 := n6_; have NB123_130 := n7_; have NB130_123 := n8_; have NB125_130 := n9_; have NB130_125 := n10_; clear n0_ n1_ n2_ n3_ n4_ n5_ n6_ n7_ n8_ n9_ n10_; clear hb hbox hg; have hnb27 := NB130_123.out; have hnc27 := NB123_130.out; have hnb28 := NB130_125.out; have hnc28 := NB125_130.out; have hcz29_0 : w26.cell? ⟨gb130, 0, none⟩ = some (.int .i64 0) := (blk_cell BK130.out 0).trans rfl; have hcz29_1 : w26.cell? ⟨gb130, 1, none⟩ = some (.int .i64 0) := (blk_cell BK130.out 1).trans rfl; have hcz29_2 : w26.cell? ⟨gb130, 2, none⟩ = some (.int .i64 0) := (blk_cell BK130.out 2).trans rfl; have hfz29_0 := blk_frozen BK130.out 0; have hfz29_1 := blk_frozen BK130.out 1; have hfz29_2 := blk_frozen BK130.out 2; have hnb30 := NB125_123.out; have hnc30 := NB123_125.out; have hcz31_0 : w26.cell? ⟨gb125, 0, none⟩ = some (.int .i64 x126000_1) := (blk_cell BK125.out 0).trans rfl; have hcz31_1 : w26.cell? ⟨gb125, 1, none⟩ = some (.int .i64 x126001_1) := (blk_cell BK125.out 1).trans rfl; have hcz31_2 : w26.cell? ⟨gb125, 2, none⟩ = some (.int .i64 x126002_1) := (blk_cell BK125.out 2).trans rfl; have hfz31_0 := blk_frozen BK125.out 0; have hfz31_1 := blk_frozen BK125.out 1; have hfz31_2 := blk_frozen BK125.out 2))
        go_roundg k1
        case measure => have := HK1.out; omega
        case rel => exact ⟨(wrap64 (x17_1 + 1)), ((rd_T109 t126 x17_1).f0.f0), ((rd_T109 t126 x17_1).f0.f1), ((rd_T109 t126 x17_1).f1), (by first | rfl | (simp; done) | (simp [*]; done)), H', ⟨by have := HK1.out; omega⟩, ⟨by (with_reducible repeat (first | apply Kd.R_alloc | apply Kd.R_drewN | apply Kd.R_drew)); exact Kd.R_mono (Kd.R_far (p := ⟨gb125, 2, none⟩) (Kd.R_far (p := ⟨gb125, 1, none⟩) (Kd.R_far (p := ⟨gb125, 0, none⟩) (Kd.R_far (p := ⟨gb130, 2, none⟩) (Kd.R_far (p := ⟨gb130, 1, none⟩) (Kd.R_far (p := ⟨gb130, 0, none⟩) (Kd.R_mono (Kd.R_mono HO_15.out (fun k_ hk => (⟨hk, hk.2⟩ : _ ∧ k_ ≠ gb130))) (fun k_ hk => (⟨hk, hk.1.1⟩ : _ ∧ k_ ≠ gb125))) (fun _ hk => hk.1.2) (.int .i64 ((rd_T109 t126 x17_1).f0.f0))) (fun _ hk => hk.1.2) (.int .i64 ((rd_T109 t126 x17_1).f0.f1))) (fun _ hk => hk.1.2) (.int .i64 ((rd_T109 t126 x17_1).f1))) (fun _ hk => hk.2) (.int .i64 ((rd_T109 t126 x17_1).f0.f0))) (fun _ hk => hk.2) (.int .i64 ((rd_T109 t126 x17_1).f0.f1))) (fun _ hk => hk.2) (.int .i64 ((rd_T109 t126 x17_1).f1))) (fun _ hk => hk.1.1.1)⟩, ⟨by (with_reducible repeat (first | refine blk_drewN ?_ _ | refine blk_drew ?_ | refine blk_alloc ?_ _)); refine blk_far ?_ NB123_125.out _; (with_reducible repeat (first | refine blk_drewN ?_ _ | refine blk_drew ?_ | refine blk_alloc ?_ _)); refine blk_far ?_ NB123_125.out _; (with_reducible repeat (first | refine blk_drewN ?_ _ | refine blk_drew ?_ | refine blk_alloc ?_ _)); refine blk_far ?_ NB123_125.out _; (with_reducible repeat (first | refine blk_drewN ?_ _ | refine blk_drew ?_ | refine blk_alloc ?_ _)); refine blk_far ?_ NB123_130.out _; (with_reducible repeat (first | refine blk_drewN ?_ _ | refine blk_drew ?_ | refine blk_alloc ?_ _)); refine blk_far ?_ NB123_130.out _; (with_reducible repeat (first | refine blk_drewN ?_ _ | refine blk_drew ?_ | refine blk_alloc ?_ _)); refine blk_far ?_ NB123_130.out _; (with_reducible repeat (first | refine blk_drewN ?_ _ | refine blk_drew ?_ | refine blk_alloc ?_ _)); exact BK123.out⟩, ⟨by (with_reducible repeat (first | refine blk_drewN ?_ _ | refine blk_drew ?_ | refine blk_alloc ?_ _)); refine blk_put (cs := #[.int .i64 ((rd_T109 t126 x17_1).f0.f0), .int .i64 ((rd_T109 t126 x17_1).f0.f1), .int .i64 x126002_1]) ?_ 2 _ rfl; (with_reducible repeat (first | refine blk_drewN ?_ _ | refine blk_drew ?_ | refine blk_alloc ?_ _)); refine blk_put (cs := #[.int .i64 ((rd_T109 t126 x17_1).f0.f0), .int .i64 x126001_1, .int .i64 x126002_1]) ?_ 1 _ rfl; (with_reducible repeat (first | refine blk_drewN ?_ _ | refine blk_drew ?_ | refine blk_alloc ?_ _)); refine blk_put (cs := #[.int .i64 x126000_1, .int .i64 x126001_1, .int .i64 x126002_1]) ?_ 0 _ rfl; (with_reducible repeat (first | refine blk_drewN ?_ _ | refine blk_drew ?_ | refine blk_alloc ?_ _)); refine blk_far ?_ NB125_130.out _; (with_reducible repeat (first | refine blk_drewN ?_ _ | refine blk_drew ?_ | refine blk_alloc ?_ _)); refine blk_far ?_ NB125_130.out _; (with_reducible repeat (first | refine blk_drewN ?_ _ | refine blk_drew ?_ | refine blk_alloc ?_ _)); refine blk_far ?_ NB125_130.out _; (with_reducible repeat (first | refine blk_drewN ?_ _ | refine blk_drew ?_ | refine blk_alloc ?_ _)); exact BK125.out⟩, ⟨by repeat (first | (with_reducible first | exact HB.out | apply below_alloc | apply pw_below_drewN | apply below_drew1 | refine below_set ?_ GE123.out | refine below_set ?_ GE125.out | refine below_set ?_ GE130.out) | exact HB.out)⟩⟩
      ·rw [if_neg c14] at H
       exact absurd H (by simp)
     ·rw [if_neg c13] at H
      exact absurd H (by simp)
    ·rw [if_neg c12] at H
     have c12b0 : decide (x17_1 < (t126.length : Int)) = false := decide_eq_false c12
     clear c12
     simp only [Option.some.injEq, Prod.mk.injEq] at H
     obtain ⟨rfl, rfl, rfl, rfl⟩ := H
     try go_wp2
     have n0_ := Aside0.mk (Kd.R_drew HO_15.out)
     have n1_ := Aside0.mk (blk_drew BK123.out)
     have n2_ := Aside0.mk (blk_drew BK125.out)
     have n3_ := Aside0.mk (below_drew1 HB.out)
     clear HO_15 BK123 BK125 HB
     have HO_15 := n0_
     have BK123 := n1_
     have BK125 := n2_
     have HB := n3_
     clear n0_ n1_ n2_ n3_
     refine start_ (n := 7) (S := fun w' => w'.cell? ⟨gb125, 0, none⟩ = some (.int .i64 x126000_1) ∧ w'.cell? ⟨gb125, 1, none⟩ = some (.int .i64 x126001_1) ∧ w'.cell? ⟨gb125, 2, none⟩ = some (.int .i64 x126002_1)) (ds := []) #[false, false, false, false, false, false, false] (by kernel_rfl) rfl rfl ⟨(blk_cell BK125.out 0).trans rfl, (blk_cell BK125.out 1).trans rfl, (blk_cell BK125.out 2).trans rfl⟩ (fun hHeld => ?_)
     generalize wr.drew = w32 at HO_15 BK123 BK125 HB hHeld ⊢
     refine pure_ (i := 0) (N := some 28) (v := ?_) (a' := ?_) #[true, false, false, false, false, false, false] rfl rfl (by kernel_rfl) (fun _ _ _ h => h) (Or.inl ⟨by rfl, ?_⟩) ?_ ?_
     rotate_left; ·(intro w'; go_simp; with_reducible rfl)
     rotate_left; ·(simp only [Act.put, List.setIfInBounds_toArray, List.set_cons_zero, List.set_cons_succ, i64_w, i32_w]; rfl)
     refine pure_ (i := 2) (N := some 30) (v := ?_) (a' := ?_) #[true, false, true, false, false, false, false] rfl rfl (by kernel_rfl) (fun _ _ _ h => h) (Or.inl ⟨by rfl, ?_⟩) ?_ ?_
     rotate_left; ·(intro w'; go_simp; with_reducible rfl)
     rotate_left; ·(simp only [Act.put, List.setIfInBounds_toArray, List.set_cons_zero, List.set_cons_succ, i64_w, i32_w]; rfl)
     refine take_ (i := 1) (N := some 29) (v := ?_) (a' := ?_) #[true, true, true, false, false, false, false] rfl rfl (by kernel_rfl) (fun _ _ _ h => h) (Or.inl ⟨by rfl, ?_⟩) hHeld ?_ ?_
     rotate_left
     ·rintro w' ⟨s0, s1, s2⟩
      go_simp
      with_reducible rfl
     rotate_left; ·(simp only [Act.put, List.setIfInBounds_toArray, List.set_cons_zero, List.set_cons_succ, i64_w, i32_w]; rfl)
     refine take_ (i := 3) (N := some 31) (v := ?_) (a' := ?_) #[true, true, true, true, false, false, false] rfl rfl (by kernel_rfl) (fun _ _ _ h => h) (Or.inl ⟨by rfl, ?_⟩) hHeld ?_ ?_
     rotate_left
     ·rintro w' ⟨s0, s1, s2⟩
      go_simp
      with_reducible rfl
     rotate_left; ·(simp only [Act.put, List.setIfInBounds_toArray, List.set_cons_zero, List.set_cons_succ, i64_w, i32_w]; rfl)
     refine one_ (i := 4) (N := none) #[true, true, true, true, true, false, false] rfl rfl (by kernel_rfl) (by decide) (fun K hK => ?_)
     have hs33 : w32.cell? ⟨gb123, 0, none⟩ = some (.int .i64 0) := (blk_cell BK123.out 0).trans rfl
     have hfs33 := blk_frozen BK123.out 0
     have hns33_1 := NB125_123.out
     have hms33_1 := NB123_125.out
     have hs34 : w32.cell? ⟨gb123, 1, none⟩ = some (.int .i64 0) := (blk_cell BK123.out 1).trans rfl
     have hfs34 := blk_frozen BK123.out 1
     have hns34_1 := NB125_123.out
     have hms34_1 := NB123_125.out
     refine skip_ (w1 := ?_) (by rfl) rfl ?_ ?_
     rotate_left
     ·go_simp
      rfl
     refine hK.out _ _ ⟨((cell_far (p := ⟨gb123, _, none⟩) NB125_123.out _).trans (((cell_far (p := ⟨gb123, _, none⟩) NB125_123.out _).trans (hHeld.1)))), ((cell_far (p := ⟨gb123, _, none⟩) NB125_123.out _).trans (((cell_far (p := ⟨gb123, _, none⟩) NB125_123.out _).trans (hHeld.2.1)))), ((cell_far (p := ⟨gb123, _, none⟩) NB125_123.out _).trans (((cell_far (p := ⟨gb123, _, none⟩) NB125_123.out _).trans (hHeld.2.2))))⟩ (fun hHeld => ?_)
     clear hK K
     refine pure_ (i := 5) (N := some 5) (v := ?_) (a' := ?_) #[true, true, true, true, true, true, false] rfl rfl (by kernel_rfl) (fun _ _ _ h => h) (Or.inl ⟨by rfl, ?_⟩) ?_ ?_
     rotate_left; ·(intro w'; go_simp; with_reducible rfl)
     rotate_left; ·(simp only [Act.put, List.setIfInBounds_toArray, List.set_cons_zero, List.set_cons_succ, i64_w, i32_w]; rfl)
     refine pure_ (i := 6) (N := some 6) (v := ?_) (a' := ?_) #[true, true, true, true, true, true, true] rfl rfl (by kernel_rfl) (fun _ _ _ h => h) (Or.inl ⟨by rfl, ?_⟩) ?_ ?_
     rotate_left; ·(intro w'; go_simp; with_reducible rfl)
     rotate_left; ·(simp only [Act.put, List.setIfInBounds_toArray, List.set_cons_zero, List.set_cons_succ, i64_w, i32_w]; rfl)
     refine done_ (by kernel_rfl) ?_
     try go_wp2
     refine bodyPost_ret (results_ctt rfl _ _ gb123 44 #[.int .i64 x126000_1, .int .i64 x126001_1] (0, 0) _ rfl (by (with_reducible repeat (first | refine blk_drewN ?_ _ | refine blk_drew ?_ | refine blk_alloc ?_ _)); refine blk_put (cs := #[.int .i64 x126000_1, .int .i64 0]) ?_ 1 _ rfl; (with_reducible repeat (first | refine blk_drewN ?_ _ | refine blk_drew ?_ | refine blk_alloc ?_ _)); refine blk_put (cs := #[.int .i64 0, .int .i64 0]) ?_ 0 _ rfl; (with_reducible repeat (first | refine blk_drewN ?_ _ | refine blk_drew ?_ | refine blk_alloc ?_ _)); exact BK123.out) Tryd.underlying44 rfl (by kernel_rfl)) rfl ?_
     exact ⟨by first | rfl | (simp [errW_none, errW_some] <;> rfl) | (simp [*, errW_none, errW_some] <;> rfl), by repeat (first | (with_reducible first | exact HB.out | apply below_alloc | apply pw_below_drewN | apply below_drew1 | refine below_set ?_ GE123.out | refine below_set ?_ GE125.out) | exact HB.out)⟩

end Go.Proofs.YtijbkiajhicooabDoor.PW

namespace Go.Proofs.YtijbkiajhicooabDoor.PW
open Go.RowKit Go.Proofs.YtijbkiajhicooabDoorW.PrintWords Go.Proofs.YtijbkiajhicooabDoorW.PrintLast Go.Proofs.YtijbkiajhicooabDoorW.PrintMore
attribute [local go_sem] max2_int min2_int max_two min_two max_three min_three max_four min_four   -- for this text's walks alone
set_option linter.unusedVariables false
set_option linter.unusedSimpArgs false

theorem eqA44 (d : Nat) (w : World) (x0 y0 : Int) (x1 y1 : Int) :
  (Op.equalIn (d + 2) 44 (.agg #[.int .i64 x0, .int .i64 x1]) (.agg #[.int .i64 y0, .int .i64 y1])).run Tryd.prog w = .ok (x0 == y0 && (x1 == y1)) w := by
 refine eqA_of Tryd.underlying44 (by kernel_rfl) ?_
 refine eqf_cons (by rfl) (by go_simp; rfl) (by go_simp; rfl) (by go_simp) ?_
 exact eqf_last (by rfl) (by go_simp; rfl) (by go_simp; rfl) (by go_simp)
end Go.Proofs.YtijbkiajhicooabDoor.PW

namespace Go.Proofs.YtijbkiajhicooabDoor.PW
open Go.RowKit Go.Proofs.YtijbkiajhicooabDoorW.PrintWords Go.Proofs.YtijbkiajhicooabDoorW.PrintLast Go.Proofs.YtijbkiajhicooabDoorW.PrintMore
attribute [local go_sem] max2_int min2_int max_two min_two max_three min_three max_four min_four   -- for this text's walks alone
set_option linter.unusedVariables false
set_option linter.unusedSimpArgs false

attribute [local go_sem high] eqA44
def galleyref22_SameHits.l0 : Nat → List (S44) → List (S44) → Int → Option (Bool)
 | 0, _, _, _ => none
 | k + 1, x0, x1, x5 => if x5 < (x0.length : Int) then (if 0 ≤ x5 then (if x5 < (x1.length : Int) then (if (!(((rd_T44 x0 x5).f0) == ((rd_T44 x1 x5).f0)) || (!(((rd_T44 x0 x5).f1) == ((rd_T44 x1 x5).f1)))) = true then (some false) else (galleyref22_SameHits.l0 k x0 x1 (wrap64 (x5 + 1)))) else (none)) else (none)) else (some true)
def galleyref22_SameHits.f (k : Nat) (l0 : List (S44)) (l1 : List (S44)) : Option (Bool) := if (l0.length : Int) = (l1.length : Int) then (galleyref22_SameHits.l0 k l0 l1 0) else (some false)
set_option maxHeartbeats 8000000 in
set_option maxRecDepth 100000 in
theorem galleyref22_SameHits.calls (k : Nat) (A0 : Option Addr) (c0 : Nat) (l0 : List (S44)) (A1 : Option Addr) (c1 : Nat) (l1 : List (S44)) (r : Bool) (w : World) (hr0 : Kd.C k44 w A0 l0.length l0) (hc0 : l0.length ≤ c0) (hr1 : Kd.C k44 w A1 l1.length l1) (hc1 : l1.length ≤ c1) (h : galleyref22_SameHits.f k l0 l1 = some r) :
  Calls Tryd.prog 24 #[.slice A0 l0.length c0, .slice A1 l1.length c1] w fun e w' => e = .returned (.bool r) ∧ Drawn0 w w' := by
 have hu44 := Tryd.underlying44
 have HR0 := Aside0.mk hr0
 have HC0 := Aside0.mk hc0
 clear hr0 hc0
 have HR1 := Aside0.mk hr1
 have HC1 := Aside0.mk hc1
 clear hr1 hc1
 have H : (if (l0.length : Int) = (l1.length : Int) then (galleyref22_SameHits.l0 k l0 l1 0) else (some false)) = some r := h
 clear h
 by_cases c3 : (l0.length : Int) = (l1.length : Int)
 ·rw [if_pos c3] at H
  have c3b0 : ((l0.length : Int) == (l1.length : Int)) = true := beq_iff_eq.mpr c3
  have c3b1 : ((l0.length : Int) != (l1.length : Int)) = false := bne_eq_false_iff_eq.mpr c3
  have c3b2 : (l0.length == l1.length) = true := by first | simpa using c3 | (simp at c3 ⊢; omega)
  clear c3
  have H' := Aside0.mk H
  clear H
  go_enter Tryd.func24, Tryd.ntmps24
  go_wp2
  repeat (go_quiet (fail); try go_wp2)
  go_loopg [5] k (fun kq v5 w' => ∃ (x5_1 : Int), v5 = .int .i64 x5_1 ∧ Aside0 (galleyref22_SameHits.l0 kq l0 l1 x5_1 = some r) ∧ Aside0 (kq ≤ k) ∧ Drawn0 w w')
  case atStart => exact ⟨(0), (by first | rfl | (simp; done) | (simp [*]; done)), H', ⟨Nat.le_refl _⟩, by repeat (first | exact Drawn0.refl _ | apply Drawn0.step)⟩
  case round =>
   clear H'
   try clear c1
   try clear c2
   try clear p2
   try clear c3
   try clear c3b0
   try clear c3b1
   try clear c3b2
   obtain ⟨x5_1, rfl, HA, HK1, ⟨m1, rfl⟩⟩ := hrel
   cases gk with
   | zero => exact absurd HA.out (by simp [galleyref22_SameHits.l0])
   | succ k1 =>
    have H := HA.out
    clear HA
    simp only [galleyref22_SameHits.l0] at H
    by_cases c4 : x5_1 < (l0.length : Int)
    ·rw [if_pos c4] at H
     have c4b0 : decide (x5_1 < (l0.length : Int)) = true := decide_eq_true c4
     clear c4
     by_cases c5 : 0 ≤ x5_1
     ·rw [if_pos c5] at H
      have c5b0 : decide (0 ≤ x5_1) = true := decide_eq_true c5
      clear c5
      by_cases c6 : x5_1 < (l1.length : Int)
      ·rw [if_pos c6] at H
       have c6b0 : decide (x5_1 < (l1.length : Int)) = true := decide_eq_true c6
       clear c6
       by_cases c7 : (!(((rd_T44 l0 x5_1).f0) == ((rd_T44 l1 x5_1).f0)) || (!(((rd_T44 l0 x5_1).f1) == ((rd_T44 l1 x5_1).f1)))) = true
       ·rw [if_pos c7] at H
        have c7b0 : (!(((rd_T44 l0 x5_1).f0) == ((rd_T44 l1 x5_1).f0)) || (!(((rd_T44 l0 x5_1).f1) == ((rd_T44 l1 x5_1).f1)))) = true := c7
        clear c7
        obtain rfl := Option.some.inj H
        have p131 : 0 ≤ (x5_1 : Int) := of_decide_eq_true (by first | (with_reducible assumption) | assumption)
        have q131 : x5_1 < (l0.length : Int) := of_decide_eq_true (by first | (with_reducible assumption) | assumption)
        obtain ⟨ad131, e131, hx131_0, hx131_1⟩ := at_T44 HR0.out x5_1 p131 q131
        cases e131
        replace p131 := eq_true p131
        replace q131 := eq_true q131
        have p132 : 0 ≤ (x5_1 : Int) := of_decide_eq_true (by first | (with_reducible assumption) | assumption)
        have q132 : x5_1 < (l1.length : Int) := of_decide_eq_true (by first | (with_reducible assumption) | assumption)
        obtain ⟨ad132, e132, hx132_0, hx132_1⟩ := at_T44 HR1.out x5_1 p132 q132
        cases e132
        replace p132 := eq_true p132
        replace q132 := eq_true q132
        go_wp2
        repeat (go_quiet (fail); try go_wp2)
        go_ret
        exact ⟨by first | rfl | (simp; done) | (simp [*]; done), by repeat (first | exact Drawn0.refl _ | apply Drawn0.step)⟩
       ·rw [if_neg c7] at H
        have c7b0 : (!(((rd_T44 l0 x5_1).f0) == ((rd_T44 l1 x5_1).f0)) || (!(((rd_T44 l0 x5_1).f1) == ((rd_T44 l1 x5_1).f1)))) = false := by simpa using c7
        clear c7
        have H' := Aside0.mk H
        clear H
        have p131 : 0 ≤ (x5_1 : Int) := of_decide_eq_true (by first | (with_reducible assumption) | assumption)
        have q131 : x5_1 < (l0.length : Int) := of_decide_eq_true (by first | (with_reducible assumption) | assumption)
        obtain ⟨ad131, e131, hx131_0, hx131_1⟩ := at_T44 HR0.out x5_1 p131 q131
        cases e131
        replace p131 := eq_true p131
        replace q131 := eq_true q131
        have p132 : 0 ≤ (x5_1 : Int) := of_decide_eq_true (by first | (with_reducible assumption) | assumption)
        have q132 : x5_1 < (l1.length : Int) := of_decide_eq_true (by first | (with_reducible assumption) | assumption)
        obtain ⟨ad132, e132, hx132_0, hx132_1⟩ := at_T44 HR1.out x5_1 p132 q132
        cases e132
        replace p132 := eq_true p132
        replace q132 := eq_true q132
        go_wp2
        repeat (go_quiet (fail); try go_wp2)
        go_roundg k1
        case measure => have := HK1.out; omega
        case rel => exact ⟨(wrap64 (x5_1 + 1)), (by first | rfl | (simp; done) | (simp [*]; done)), H', ⟨by have := HK1.out; omega⟩, by repeat (first | exact Drawn0.refl _ | apply Drawn0.step)⟩
      ·rw [if_neg c6] at H
       exact absurd H (by simp)
     ·rw [if_neg c5] at H
      exact absurd H (by simp)
    ·rw [if_neg c4] at H
     have c4b0 : decide (x5_1 < (l0.length : Int)) = false := decide_eq_false c4
     clear c4
     obtain rfl := Option.some.inj H
     go_wp2
     repeat (go_quiet (fail); try go_wp2)
     go_ret
     exact ⟨by first | rfl | (simp; done) | (simp [*]; done), by repeat (first | exact Drawn0.refl _ | apply Drawn0.step)⟩
 ·rw [if_neg c3] at H
  have c3b0 : ((l0.length : Int) == (l1.length : Int)) = false := beq_eq_false_iff_ne.mpr c3
  have c3b1 : ((l0.length : Int) != (l1.length : Int)) = true := bne_iff_ne.mpr c3
  have c3b2 : (l0.length == l1.length) = false := by first | simpa using c3 | (simp at c3 ⊢; omega)
  obtain rfl := Option.some.inj H
  go_enter Tryd.func24, Tryd.ntmps24
  go_wp2
  repeat (go_quiet (fail); try go_wp2)
  go_ret
  exact ⟨by first | rfl | (simp; done) | (simp [*]; done), by repeat (first | exact Drawn0.refl _ | apply Drawn0.step)⟩

end Go.Proofs.YtijbkiajhicooabDoor.PW

