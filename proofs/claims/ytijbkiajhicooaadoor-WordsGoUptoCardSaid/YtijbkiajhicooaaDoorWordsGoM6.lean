-- Written by merge.py, a program of this session's: PWx51 PWx52 PureDecode PureEdges PureSteps PureOf PureAll PureKind PureOf22 PureRunsT PureRuns22 PureWAll PureWordsAll PureWordsGo
import Derived.Test.YtijbkiajhicooaaDoorWordsGoM1
import Derived.Test.YtijbkiajhicooaaDoorWordsGoM5
import Derived.Test.YtijbkiajhicooaaDoorWordsGoM3
import Derived.Lib.Bytes
import Derived.Test.YtijbkiajhicooaaDoorWordsGoM4
namespace Go.Proofs.YtijbkiajhicooaaDoor.PW
open Go.RowKit Go.Proofs.YtijbkiajhicooaaDoorW.PrintWords Go.Proofs.YtijbkiajhicooaaDoorW.PrintLast Go.Proofs.YtijbkiajhicooaaDoorW.PrintMore
attribute [local go_sem] max2_int min2_int max_two min_two max_three min_three max_four min_four   -- for this text's walks alone
set_option linter.unusedVariables false
set_option linter.unusedSimpArgs false

mutual
def galleyref22_Prev.j0 : Nat → List Int → Int → Bool → Option (Int × Int)
 | 0, _, _, _ => none
 | k + 1, x0, x1, x16 => if x16 = true then (some (0, 2)) else ((galleyref22_All.f k x0).bind fun t320 => (galleyref22_Prev.l0 k x1 t320 0 0))
def galleyref22_Prev.l0 : Nat → Int → List (S36) → Int → Int → Option (Int × Int)
 | 0, _, _, _, _ => none
 | k + 1, x1, x6, x7, x8 => if x8 < (x6.length : Int) then (if 0 ≤ x8 then (if ((rd_T36 x6 x8).f0) < x1 then (galleyref22_Prev.l0 k x1 x6 ((rd_T36 x6 x8).f0) (wrap64 (x8 + 1))) else (galleyref22_Prev.l0 k x1 x6 x7 (wrap64 (x8 + 1)))) else (none)) else (some (x7, 0))
end
def galleyref22_Prev.f (k : Nat) (l0 : List Int) (a1 : Int) : Option (Int × Int) := if a1 < 0 then (galleyref22_Prev.j0 k l0 a1 true) else (galleyref22_Prev.j0 k l0 a1 (decide (a1 > (l0.length : Int))))
set_option maxHeartbeats 8000000 in
set_option maxRecDepth 100000 in
theorem galleyref22_Prev.calls (k : Nat) (A0 : Option Addr) (c0 : Nat) (l0 : List Int) (a1 : Int) (r1 : Int) (r2 : Int) (w : World) (hr0 : Kd.C (Kd.int .u8) w A0 l0.length l0) (hc0 : l0.length ≤ c0) (h : galleyref22_Prev.f k l0 a1 = some (r1, r2)) :
  Calls Tryd.prog 25 #[.slice A0 l0.length c0, .int .i64 a1] w fun e w' => e = .returned (.tuple #[.int .i64 r1, .int .i64 r2]) ∧ Below w.heap.size w w' := by
 have HR0 := Aside0.mk hr0
 have HC0 := Aside0.mk hc0
 clear hr0 hc0
 have HB := Aside0.mk (Below.refl w.heap.size w)
 have H : (if a1 < 0 then (galleyref22_Prev.j0 k l0 a1 true) else (galleyref22_Prev.j0 k l0 a1 (decide (a1 > (l0.length : Int))))) = some (r1, r2) := h
 clear h
 have HC3 := Aside0.mk H
 clear H
 go_enter Tryd.func25, Tryd.ntmps25
 go_upto_region 1 with (fail)
 go_cut [16] (fun v16 wc => ∃ (kq : Nat) (x16_2 : Bool), v16 = .bool x16_2 ∧ Aside0 (galleyref22_Prev.j0 kq l0 a1 x16_2 = some (r1, r2)) ∧ Aside0 (kq ≤ k) ∧ Aside0 (Below w.heap.size w wc))
 case first =>
  have H := HC3.out
  clear HC3
  by_cases c4 : a1 < 0
  ·rw [if_pos c4] at H
   have c4b0 : decide (a1 < 0) = true := decide_eq_true c4
   clear c4
   (first | rw [c4b0] | (simp only [i64_w, i32_w]; rw [c4b0]) | skip)
   have H' := Aside0.mk H
   clear H
   go_wp2
   go_meet
   case rel => exact ⟨_, (true), (by first | rfl | (simp; done) | (simp [*]; done)), H', ⟨by first | omega | exact Nat.le_refl _⟩, ⟨by repeat (first | (with_reducible first | exact HB.out | apply below_alloc | apply pw_below_drewN | apply below_drew1) | exact HB.out)⟩⟩
  ·rw [if_neg c4] at H
   have c4b0 : decide (a1 < 0) = false := decide_eq_false c4
   clear c4
   (first | rw [c4b0] | (simp only [i64_w, i32_w]; rw [c4b0]) | skip)
   have H' := Aside0.mk H
   clear H
   go_wp2
   go_meet
   case rel => exact ⟨_, (decide (a1 > (l0.length : Int))), (by first | rfl | (simp; done) | (simp [*]; done)), H', ⟨by first | omega | exact Nat.le_refl _⟩, ⟨by repeat (first | (with_reducible first | exact HB.out | apply below_alloc | apply pw_below_drewN | apply below_drew1) | exact HB.out)⟩⟩
 case rest =>
  clear HC3
  try clear c2
  try clear p2
  try clear c4
  try clear c4b0
  obtain ⟨kq, x16_2, rfl, HA, HJ2, HB⟩ := hcut
  cases kq with
  | zero => exact absurd HA.out (by simp [galleyref22_Prev.j0])
  | succ kj2 =>
   have H := HA.out
   clear HA
   simp only [galleyref22_Prev.j0] at H
   by_cases c5 : x16_2 = true
   ·subst c5
    have H1 : (some (0, 2)) = some (r1, r2) := by rw [if_pos rfl] at H; exact H
    clear H
    have H := H1
    clear H1
    simp only [Option.some.injEq, Prod.mk.injEq] at H
    obtain ⟨rfl, rfl⟩ := H
    go_wp2
    go_ret2
    exact ⟨by first | rfl | (simp [errW_none, errW_some] <;> rfl) | (simp [*, errW_none, errW_some] <;> rfl), by repeat (first | (with_reducible first | exact HB.out | apply below_alloc | apply pw_below_drewN | apply below_drew1) | exact HB.out)⟩
   ·replace c5 := Bool.eq_false_iff.mpr c5
    subst c5
    have H1 : ((galleyref22_All.f kj2 l0).bind fun t320 => (galleyref22_Prev.l0 kj2 a1 t320 0 0)) = some (r1, r2) := by rw [if_neg (show ¬ (false = true) by decide)] at H; exact H
    clear H
    have H := H1
    clear H1
    replace H := Option.bind_eq_some_iff.mp H
    obtain ⟨t320, A60, H⟩ := H
    replace H : (galleyref22_Prev.l0 kj2 a1 t320 0 0) = some (r1, r2) := H
    have A6 := Aside0.mk A60
    clear A60
    have H' := Aside0.mk H
    clear H
    go_wp2_with (first | ((with_reducible refine gate_callee (f := 19) rfl ?_); refine goesL_ (some 18) rfl rfl Tryd.func19 (by kernel_rfl) rfl #[.slice A0 l0.length c0] rfl (by (try simp only [List.map_toArray, List.map_cons, List.map_nil]); first | done | rfl | (simp only [List.length_drop, List.length_take]; rfl)) ?_; (with_reducible refine (galleyref22_All.calls kj2 _ _ l0 t320 _ ?side1 ?side2 A6.out).mono ?_); (case side1 => repeat (first | exact (Kd.C_below HR0.out HB.out) | (with_reducible refine Kd.C_alloc ?_ _) | (with_reducible refine Kd.C_drewN ?_ _) | (with_reducible refine Kd.C_drew ?_))); (case side2 => exact HC0.out); rintro e w7 ⟨v321, rfl, ho0, hb⟩; refine ⟨_, rfl, ?_⟩; have n0_ := Aside0.mk (Kd.R_lower ho0 (below_size (by repeat (first | (with_reducible first | exact HB.out | apply below_alloc | apply pw_below_drewN | apply below_drew1) | exact HB.out)))); have n1_ := Aside0.mk (below_step (by repeat (first | (with_reducible first | exact HB.out | apply below_alloc | apply pw_below_drewN | apply below_drew1) | exact HB.out)) hb); clear HB; have HO322 := n0_; have HB := n1_; clear n0_ n1_; (try clear hb); (try clear hb2); (try clear hk); (try clear hi); (try clear ho0)))
    go_loopg [7, 8] kj2 (fun kq v7 v8 w' => ∃ (x7_2 : Int) (x8_2 : Int), v7 = .int .i64 x7_2 ∧ v8 = .int .i64 x8_2 ∧ Aside0 (galleyref22_Prev.l0 kq a1 t320 x7_2 x8_2 = some (r1, r2)) ∧ Aside0 (kq ≤ kj2) ∧ Aside0 (Kd.R k36 36 w' w.heap.size (fun _ => True) v321 t320) ∧ Aside0 (Below w.heap.size w w'))
    case atStart => exact ⟨(0), (0), (by first | rfl | (simp; done) | (simp [*]; done)), (by first | rfl | (simp; done) | (simp [*]; done)), H', ⟨Nat.le_refl _⟩, ⟨by (with_reducible repeat (first | apply Kd.R_alloc | apply Kd.R_drewN | apply Kd.R_drew)); exact HO322.out⟩, ⟨by repeat (first | (with_reducible first | exact HB.out | apply below_alloc | apply pw_below_drewN | apply below_drew1) | exact HB.out)⟩⟩
    case round =>
     clear H'
     try clear c1
     try clear c2
     try clear p2
     try clear c4
     try clear c4b0
     try clear c5
     try clear p2
     obtain ⟨x7_2, x8_2, rfl, rfl, HA, HK2, HO_6, HB⟩ := hrel
     cases gk with
     | zero => exact absurd HA.out (by simp [galleyref22_Prev.l0])
     | succ k2 =>
      have H := HA.out
      clear HA
      simp only [galleyref22_Prev.l0] at H
      by_cases c8 : x8_2 < (t320.length : Int)
      ·rw [if_pos c8] at H
       have c8b0 : decide (x8_2 < (t320.length : Int)) = true := decide_eq_true c8
       clear c8
       by_cases c9 : 0 ≤ x8_2
       ·rw [if_pos c9] at H
        have c9b0 : decide (0 ≤ x8_2) = true := decide_eq_true c9
        clear c9
        by_cases c10 : ((rd_T36 t320 x8_2).f0) < a1
        ·rw [if_pos c10] at H
         have c10b0 : decide (((rd_T36 t320 x8_2).f0) < a1) = true := decide_eq_true c10
         clear c10
         have H' := Aside0.mk H
         clear H
         obtain ⟨Ao11, co11, eo11⟩ := Kd.R_slice HO_6.out
         subst eo11
         have p323 : 0 ≤ (x8_2 : Int) := of_decide_eq_true (by first | (with_reducible assumption) | assumption)
         have q323 : x8_2 < (t320.length : Int) := of_decide_eq_true (by first | (with_reducible assumption) | assumption)
         obtain ⟨ad323, e323, hx323_0, hx323_1⟩ := at_T36 (Kd.R_reads' HO_6.out).2.2 x8_2 p323 q323
         cases e323
         replace p323 := eq_true p323
         replace q323 := eq_true q323
         have p324 : 0 ≤ (x8_2 : Int) := of_decide_eq_true (by first | (with_reducible assumption) | assumption)
         have q324 : x8_2 < (t320.length : Int) := of_decide_eq_true (by first | (with_reducible assumption) | assumption)
         obtain ⟨ad324, e324, hx324_0, hx324_1⟩ := at_T36 (Kd.R_reads' HO_6.out).2.2 x8_2 p324 q324
         obtain rfl : ad323 = ad324 := (by injection e324)
         replace p324 := eq_true p324
         replace q324 := eq_true q324
         go_wp2
         go_roundg k2
         case measure => have := HJ2.out; have := HK2.out; omega
         case rel => exact ⟨((rd_T36 t320 x8_2).f0), (wrap64 (x8_2 + 1)), (by first | rfl | (simp; done) | (simp [*]; done)), (by first | rfl | (simp; done) | (simp [*]; done)), H', ⟨by have := HJ2.out; have := HK2.out; omega⟩, ⟨by (with_reducible repeat (first | apply Kd.R_alloc | apply Kd.R_drewN | apply Kd.R_drew)); exact HO_6.out⟩, ⟨by repeat (first | (with_reducible first | exact HB.out | apply below_alloc | apply pw_below_drewN | apply below_drew1) | exact HB.out)⟩⟩
        ·rw [if_neg c10] at H
         have c10b0 : decide (((rd_T36 t320 x8_2).f0) < a1) = false := decide_eq_false c10
         clear c10
         have H' := Aside0.mk H
         clear H
         obtain ⟨Ao12, co12, eo12⟩ := Kd.R_slice HO_6.out
         subst eo12
         have p323 : 0 ≤ (x8_2 : Int) := of_decide_eq_true (by first | (with_reducible assumption) | assumption)
         have q323 : x8_2 < (t320.length : Int) := of_decide_eq_true (by first | (with_reducible assumption) | assumption)
         obtain ⟨ad323, e323, hx323_0, hx323_1⟩ := at_T36 (Kd.R_reads' HO_6.out).2.2 x8_2 p323 q323
         cases e323
         replace p323 := eq_true p323
         replace q323 := eq_true q323
         go_wp2
         go_roundg k2
         case measure => have := HJ2.out; have := HK2.out; omega
         case rel => exact ⟨(x7_2), (wrap64 (x8_2 + 1)), (by first | rfl | (simp; done) | (simp [*]; done)), (by first | rfl | (simp; done) | (simp [*]; done)), H', ⟨by have := HJ2.out; have := HK2.out; omega⟩, ⟨by (with_reducible repeat (first | apply Kd.R_alloc | apply Kd.R_drewN | apply Kd.R_drew)); exact HO_6.out⟩, ⟨by repeat (first | (with_reducible first | exact HB.out | apply below_alloc | apply pw_below_drewN | apply below_drew1) | exact HB.out)⟩⟩
       ·rw [if_neg c9] at H
        exact absurd H (by simp)
      ·rw [if_neg c8] at H
       have c8b0 : decide (x8_2 < (t320.length : Int)) = false := decide_eq_false c8
       clear c8
       simp only [Option.some.injEq, Prod.mk.injEq] at H
       obtain ⟨rfl, rfl⟩ := H
       obtain ⟨Ao13, co13, eo13⟩ := Kd.R_slice HO_6.out
       subst eo13
       go_wp2
       go_ret2
       exact ⟨by first | rfl | (simp [errW_none, errW_some] <;> rfl) | (simp [*, errW_none, errW_some] <;> rfl), by repeat (first | (with_reducible first | exact HB.out | apply below_alloc | apply pw_below_drewN | apply below_drew1) | exact HB.out)⟩

end Go.Proofs.YtijbkiajhicooaaDoor.PW

namespace Go.Proofs.YtijbkiajhicooaaDoor.PW
open Go.RowKit Go.Proofs.YtijbkiajhicooaaDoorW.PrintWords Go.Proofs.YtijbkiajhicooaaDoorW.PrintLast Go.Proofs.YtijbkiajhicooaaDoorW.PrintMore
attribute [local go_sem] max2_int min2_int max_two min_two max_three min_three max_four min_four   -- for this text's walks alone
set_option linter.unusedVariables false
set_option linter.unusedSimpArgs false

def galleylaw22_WordsGo.f (k : Nat) (l0 : List Int) (a1 : Int) : Option (Bool) := (galleylaw22_wakes.f).bind fun t325 => (if t325 = true then ((galleylaw22_own.f l0).bind fun t326 => ((words_Next.f k t326 a1).bind fun bt329 => ((galleyref22_Next.f k l0 a1).bind fun bt331 => ((galleylaw22_own.f l0).bind fun t333 => ((words_Prev.f k t333 a1).bind fun bt336 => ((galleyref22_Prev.f k l0 a1).bind fun bt338 => (if bt329.1 = bt331.1 then (if bt329.2 = bt331.2 then (if bt336.1 = bt338.1 then (some (bt336.2 == bt338.2)) else (some false)) else (some false)) else (some false)))))))) else (some false))
set_option maxHeartbeats 8000000 in
set_option maxRecDepth 100000 in
theorem galleylaw22_WordsGo.calls (k : Nat) (A0 : Option Addr) (c0 : Nat) (l0 : List Int) (a1 : Int) (r : Bool) (w : World) (hr0 : Kd.C (Kd.int .u8) w A0 l0.length l0) (hc0 : l0.length ≤ c0) (hL : LaidBad w) (h : galleylaw22_WordsGo.f k l0 a1 = some r) :
  Calls Tryd.prog 6 #[.slice A0 l0.length c0, .int .i64 a1] w fun e w' => e = .returned (.bool r) ∧ Below w.heap.size w w' := by
 have HR0 := Aside0.mk hr0
 have HC0 := Aside0.mk hc0
 clear hr0 hc0
 have HB := Aside0.mk (Below.refl w.heap.size w)
 have HLB := Aside0.mk hL
 clear hL
 have H : ((galleylaw22_wakes.f).bind fun t325 => (if t325 = true then ((galleylaw22_own.f l0).bind fun t326 => ((words_Next.f k t326 a1).bind fun bt329 => ((galleyref22_Next.f k l0 a1).bind fun bt331 => ((galleylaw22_own.f l0).bind fun t333 => ((words_Prev.f k t333 a1).bind fun bt336 => ((galleyref22_Prev.f k l0 a1).bind fun bt338 => (if bt329.1 = bt331.1 then (if bt329.2 = bt331.2 then (if bt336.1 = bt338.1 then (some (bt336.2 == bt338.2)) else (some false)) else (some false)) else (some false)))))))) else (some false))) = some r := h
 clear h
 replace H := Option.bind_eq_some_iff.mp H
 obtain ⟨t325, A30, H⟩ := H
 replace H : (if t325 = true then ((galleylaw22_own.f l0).bind fun t326 => ((words_Next.f k t326 a1).bind fun bt329 => ((galleyref22_Next.f k l0 a1).bind fun bt331 => ((galleylaw22_own.f l0).bind fun t333 => ((words_Prev.f k t333 a1).bind fun bt336 => ((galleyref22_Prev.f k l0 a1).bind fun bt338 => (if bt329.1 = bt331.1 then (if bt329.2 = bt331.2 then (if bt336.1 = bt338.1 then (some (bt336.2 == bt338.2)) else (some false)) else (some false)) else (some false)))))))) else (some false)) = some r := H
 have A3 := Aside0.mk A30
 clear A30
 by_cases c4 : t325 = true
 ·subst c4
  have H1 : ((galleylaw22_own.f l0).bind fun t326 => ((words_Next.f k t326 a1).bind fun bt329 => ((galleyref22_Next.f k l0 a1).bind fun bt331 => ((galleylaw22_own.f l0).bind fun t333 => ((words_Prev.f k t333 a1).bind fun bt336 => ((galleyref22_Prev.f k l0 a1).bind fun bt338 => (if bt329.1 = bt331.1 then (if bt329.2 = bt331.2 then (if bt336.1 = bt338.1 then (some (bt336.2 == bt338.2)) else (some false)) else (some false)) else (some false)))))))) = some r := by rw [if_pos rfl] at H; exact H
  clear H
  have H := H1
  clear H1
  replace H := Option.bind_eq_some_iff.mp H
  obtain ⟨t326, A50, H⟩ := H
  replace H : ((words_Next.f k t326 a1).bind fun bt329 => ((galleyref22_Next.f k l0 a1).bind fun bt331 => ((galleylaw22_own.f l0).bind fun t333 => ((words_Prev.f k t333 a1).bind fun bt336 => ((galleyref22_Prev.f k l0 a1).bind fun bt338 => (if bt329.1 = bt331.1 then (if bt329.2 = bt331.2 then (if bt336.1 = bt338.1 then (some (bt336.2 == bt338.2)) else (some false)) else (some false)) else (some false))))))) = some r := H
  have A5 := Aside0.mk A50
  clear A50
  replace H := Option.bind_eq_some_iff.mp H
  obtain ⟨⟨t329, t330⟩, A60, H⟩ := H
  replace H : ((galleyref22_Next.f k l0 a1).bind fun bt331 => ((galleylaw22_own.f l0).bind fun t333 => ((words_Prev.f k t333 a1).bind fun bt336 => ((galleyref22_Prev.f k l0 a1).bind fun bt338 => (if t329 = bt331.1 then (if t330 = bt331.2 then (if bt336.1 = bt338.1 then (some (bt336.2 == bt338.2)) else (some false)) else (some false)) else (some false)))))) = some r := H
  have A6 := Aside0.mk A60
  clear A60
  replace H := Option.bind_eq_some_iff.mp H
  obtain ⟨⟨t331, t332⟩, A70, H⟩ := H
  replace H : ((galleylaw22_own.f l0).bind fun t333 => ((words_Prev.f k t333 a1).bind fun bt336 => ((galleyref22_Prev.f k l0 a1).bind fun bt338 => (if t329 = t331 then (if t330 = t332 then (if bt336.1 = bt338.1 then (some (bt336.2 == bt338.2)) else (some false)) else (some false)) else (some false))))) = some r := H
  have A7 := Aside0.mk A70
  clear A70
  replace H := Option.bind_eq_some_iff.mp H
  obtain ⟨t333, A80, H⟩ := H
  replace H : ((words_Prev.f k t333 a1).bind fun bt336 => ((galleyref22_Prev.f k l0 a1).bind fun bt338 => (if t329 = t331 then (if t330 = t332 then (if bt336.1 = bt338.1 then (some (bt336.2 == bt338.2)) else (some false)) else (some false)) else (some false)))) = some r := H
  have A8 := Aside0.mk A80
  clear A80
  replace H := Option.bind_eq_some_iff.mp H
  obtain ⟨⟨t336, t337⟩, A90, H⟩ := H
  replace H : ((galleyref22_Prev.f k l0 a1).bind fun bt338 => (if t329 = t331 then (if t330 = t332 then (if t336 = bt338.1 then (some (t337 == bt338.2)) else (some false)) else (some false)) else (some false))) = some r := H
  have A9 := Aside0.mk A90
  clear A90
  replace H := Option.bind_eq_some_iff.mp H
  obtain ⟨⟨t338, t339⟩, A100, H⟩ := H
  replace H : (if t329 = t331 then (if t330 = t332 then (if t336 = t338 then (some (t337 == t339)) else (some false)) else (some false)) else (some false)) = some r := H
  have A10 := Aside0.mk A100
  clear A100
  by_cases c11 : t329 = t331
  ·rw [if_pos c11] at H
   have c11b0 : (t329 == t331) = true := beq_iff_eq.mpr c11
   have c11b1 : (t329 != t331) = false := bne_eq_false_iff_eq.mpr c11
   clear c11
   by_cases c12 : t330 = t332
   ·rw [if_pos c12] at H
    have c12b0 : (t330 == t332) = true := beq_iff_eq.mpr c12
    have c12b1 : (t330 != t332) = false := bne_eq_false_iff_eq.mpr c12
    clear c12
    by_cases c13 : t336 = t338
    ·rw [if_pos c13] at H
     have c13b0 : (t336 == t338) = true := beq_iff_eq.mpr c13
     have c13b1 : (t336 != t338) = false := bne_eq_false_iff_eq.mpr c13
     clear c13
     obtain rfl := Option.some.inj H
     go_enter Tryd.func6, Tryd.ntmps6
     go_wp2_with (first | ((with_reducible refine gate_callee (f := 13) rfl ?_); refine goesL_ (some 13) rfl rfl Tryd.func13 (by kernel_rfl) rfl #[] rfl (by (try simp only [List.map_toArray, List.map_cons, List.map_nil]); first | done | rfl | (simp only [List.length_drop, List.length_take]; rfl)) ?_; (with_reducible refine (galleylaw22_wakes.calls  true _ ?side1 A3.out).mono ?_); (case side1 => exact laid_below HLB.out (by repeat (first | (with_reducible first | exact HB.out | apply below_alloc | apply pw_below_drewN | apply below_drew1) | exact HB.out))); rintro e w14 ⟨rfl, hb⟩; refine ⟨_, rfl, ?_⟩; have n0_ := Aside0.mk (below_step (by repeat (first | (with_reducible first | exact HB.out | apply below_alloc | apply pw_below_drewN | apply below_drew1) | exact HB.out)) hb); clear HB; have HB := n0_; clear n0_; (try clear hb); (try clear hb2); (try clear hk); (try clear hi)) | ((with_reducible refine gate_callee (f := 18) rfl ?_); refine goesL_ (some 17) rfl rfl Tryd.func18 (by kernel_rfl) rfl #[.slice A0 l0.length c0] rfl (by (try simp only [List.map_toArray, List.map_cons, List.map_nil]); first | done | rfl | (simp only [List.length_drop, List.length_take]; rfl)) ?_; (with_reducible refine (galleylaw22_own.calls _ _ l0 t326 _ ?side1 ?side2 A5.out).mono ?_); (case side1 => repeat (first | exact (Kd.C_below HR0.out HB.out) | (with_reducible refine Kd.C_alloc ?_ _) | (with_reducible refine Kd.C_drewN ?_ _) | (with_reducible refine Kd.C_drew ?_))); (case side2 => exact HC0.out); rintro e w15 ⟨v327, rfl, ho0, hb⟩; refine ⟨_, rfl, ?_⟩; have n0_ := Aside0.mk (Kd.R_lower ho0 (below_size (by repeat (first | (with_reducible first | exact HB.out | apply below_alloc | apply pw_below_drewN | apply below_drew1) | exact HB.out)))); have n1_ := Aside0.mk (below_step (by repeat (first | (with_reducible first | exact HB.out | apply below_alloc | apply pw_below_drewN | apply below_drew1) | exact HB.out)) hb); clear HB; have HO328 := n0_; have HB := n1_; clear n0_ n1_; (try clear hb); (try clear hb2); (try clear hk); (try clear hi); (try clear ho0); obtain ⟨Ao16, co16, eo16⟩ := Kd.R_slice HO328.out; subst eo16) | ((with_reducible refine gate_callee (f := 22) rfl ?_); refine goesL_ (some 19) rfl rfl Tryd.func22 (by kernel_rfl) rfl #[.slice Ao16 t326.length co16, .int .i64 a1] rfl (by (try simp only [List.map_toArray, List.map_cons, List.map_nil]); first | done | rfl | (simp only [List.length_drop, List.length_take]; rfl)) ?_; (with_reducible refine (words_Next.calls k _ _ t326 a1 t329 t330 _ ?side1 ?side2 ?side3 A6.out).mono ?_); (case side1 => repeat (first | exact (Kd.R_reads' HO328.out).2.2 | (with_reducible refine Kd.C_alloc ?_ _) | (with_reducible refine Kd.C_drewN ?_ _) | (with_reducible refine Kd.C_drew ?_))); (case side2 => exact (Kd.R_reads' HO328.out).2.1); (case side3 => exact laid_below HLB.out (by repeat (first | (with_reducible first | exact HB.out | apply below_alloc | apply pw_below_drewN | apply below_drew1) | exact HB.out))); rintro e w17 ⟨rfl, hb⟩; refine ⟨_, rfl, ?_⟩; have n0_ := Aside0.mk (Kd.R_below (by (with_reducible repeat (first | apply Kd.R_alloc | apply Kd.R_drewN | apply Kd.R_drew)); exact HO328.out) hb); have n1_ := Aside0.mk (below_step (by repeat (first | (with_reducible first | exact HB.out | apply below_alloc | apply pw_below_drewN | apply below_drew1) | exact HB.out)) hb); clear HO328; clear HB; have HO328 := n0_; have HB := n1_; clear n0_ n1_; (try clear hb); (try clear hb2); (try clear hk); (try clear hi)) | ((with_reducible refine gate_callee (f := 23) rfl ?_); refine goesL_ (some 25) rfl rfl Tryd.func23 (by kernel_rfl) rfl #[.slice A0 l0.length c0, .int .i64 a1] rfl (by (try simp only [List.map_toArray, List.map_cons, List.map_nil]); first | done | rfl | (simp only [List.length_drop, List.length_take]; rfl)) ?_; (with_reducible refine (galleyref22_Next.calls k _ _ l0 a1 t331 t332 _ ?side1 ?side2 A7.out).mono ?_); (case side1 => repeat (first | exact (Kd.C_below HR0.out HB.out) | (with_reducible refine Kd.C_alloc ?_ _) | (with_reducible refine Kd.C_drewN ?_ _) | (with_reducible refine Kd.C_drew ?_))); (case side2 => exact HC0.out); rintro e w18 ⟨rfl, hb⟩; refine ⟨_, rfl, ?_⟩; have n0_ := Aside0.mk (Kd.R_below (by (with_reducible repeat (first | apply Kd.R_alloc | apply Kd.R_drewN | apply Kd.R_drew)); exact HO328.out) hb); have n1_ := Aside0.mk (below_step (by repeat (first | (with_reducible first | exact HB.out | apply below_alloc | apply pw_below_drewN | apply below_drew1) | exact HB.out)) hb); clear HO328; clear HB; have HO328 := n0_; have HB := n1_; clear n0_ n1_; (try clear hb); (try clear hb2); (try clear hk); (try clear hi)) | ((with_reducible refine gate_callee (f := 18) rfl ?_); refine goesL_ (some 30) rfl rfl Tryd.func18 (by kernel_rfl) rfl #[.slice A0 l0.length c0] rfl (by (try simp only [List.map_toArray, List.map_cons, List.map_nil]); first | done | rfl | (simp only [List.length_drop, List.length_take]; rfl)) ?_; (with_reducible refine (galleylaw22_own.calls _ _ l0 t333 _ ?side1 ?side2 A8.out).mono ?_); (case side1 => repeat (first | exact (Kd.C_below HR0.out HB.out) | (with_reducible refine Kd.C_alloc ?_ _) | (with_reducible refine Kd.C_drewN ?_ _) | (with_reducible refine Kd.C_drew ?_))); (case side2 => exact HC0.out); rintro e w19 ⟨v334, rfl, ho0, hb⟩; refine ⟨_, rfl, ?_⟩; have n0_ := Aside0.mk (Kd.R_elder' (by (with_reducible repeat (first | apply Kd.R_alloc | apply Kd.R_drewN | apply Kd.R_drew)); exact HO328.out) (Kd.R_base ho0) hb); have n1_ := Aside0.mk (Kd.R_lower (Kd.R_new' ho0 (Kd.R_lt (by (with_reducible repeat (first | apply Kd.R_alloc | apply Kd.R_drewN | apply Kd.R_drew)); exact HO328.out))) (below_size (by repeat (first | (with_reducible first | exact HB.out | apply below_alloc | apply pw_below_drewN | apply below_drew1) | exact HB.out)))); have n2_ := Aside0.mk (below_step (by repeat (first | (with_reducible first | exact HB.out | apply below_alloc | apply pw_below_drewN | apply below_drew1) | exact HB.out)) hb); clear HO328; clear HB; have HO328 := n0_; have HO335 := n1_; have HB := n2_; clear n0_ n1_ n2_; (try clear hb); (try clear hb2); (try clear hk); (try clear hi); (try clear ho0); obtain ⟨Ao20, co20, eo20⟩ := Kd.R_slice HO335.out; subst eo20) | ((with_reducible refine gate_callee (f := 24) rfl ?_); refine goesL_ (some 32) rfl rfl Tryd.func24 (by kernel_rfl) rfl #[.slice Ao20 t333.length co20, .int .i64 a1] rfl (by (try simp only [List.map_toArray, List.map_cons, List.map_nil]); first | done | rfl | (simp only [List.length_drop, List.length_take]; rfl)) ?_; (with_reducible refine (words_Prev.calls k _ _ t333 a1 t336 t337 _ ?side1 ?side2 ?side3 A9.out).mono ?_); (case side1 => repeat (first | exact (Kd.R_reads' HO335.out).2.2 | (with_reducible refine Kd.C_alloc ?_ _) | (with_reducible refine Kd.C_drewN ?_ _) | (with_reducible refine Kd.C_drew ?_))); (case side2 => exact (Kd.R_reads' HO335.out).2.1); (case side3 => exact laid_below HLB.out (by repeat (first | (with_reducible first | exact HB.out | apply below_alloc | apply pw_below_drewN | apply below_drew1) | exact HB.out))); rintro e w21 ⟨rfl, hb⟩; refine ⟨_, rfl, ?_⟩; have n0_ := Aside0.mk (Kd.R_below (by (with_reducible repeat (first | apply Kd.R_alloc | apply Kd.R_drewN | apply Kd.R_drew)); exact HO328.out) hb); have n1_ := Aside0.mk (Kd.R_below (by (with_reducible repeat (first | apply Kd.R_alloc | apply Kd.R_drewN | apply Kd.R_drew)); exact HO335.out) hb); have n2_ := Aside0.mk (below_step (by repeat (first | (with_reducible first | exact HB.out | apply below_alloc | apply pw_below_drewN | apply below_drew1) | exact HB.out)) hb); clear HO328; clear HO335; clear HB; have HO328 := n0_; have HO335 := n1_; have HB := n2_; clear n0_ n1_ n2_; (try clear hb); (try clear hb2); (try clear hk); (try clear hi)) | ((with_reducible refine gate_callee (f := 25) rfl ?_); refine goesL_ (some 38) rfl rfl Tryd.func25 (by kernel_rfl) rfl #[.slice A0 l0.length c0, .int .i64 a1] rfl (by (try simp only [List.map_toArray, List.map_cons, List.map_nil]); first | done | rfl | (simp only [List.length_drop, List.length_take]; rfl)) ?_; (with_reducible refine (galleyref22_Prev.calls k _ _ l0 a1 t338 t339 _ ?side1 ?side2 A10.out).mono ?_); (case side1 => repeat (first | exact (Kd.C_below HR0.out HB.out) | (with_reducible refine Kd.C_alloc ?_ _) | (with_reducible refine Kd.C_drewN ?_ _) | (with_reducible refine Kd.C_drew ?_))); (case side2 => exact HC0.out); rintro e w22 ⟨rfl, hb⟩; refine ⟨_, rfl, ?_⟩; have n0_ := Aside0.mk (Kd.R_below (by (with_reducible repeat (first | apply Kd.R_alloc | apply Kd.R_drewN | apply Kd.R_drew)); exact HO328.out) hb); have n1_ := Aside0.mk (Kd.R_below (by (with_reducible repeat (first | apply Kd.R_alloc | apply Kd.R_drewN | apply Kd.R_drew)); exact HO335.out) hb); have n2_ := Aside0.mk (below_step (by repeat (first | (with_reducible first | exact HB.out | apply below_alloc | apply pw_below_drewN | apply below_drew1) | exact HB.out)) hb); clear HO328; clear HO335; clear HB; have HO328 := n0_; have HO335 := n1_; have HB := n2_; clear n0_ n1_ n2_; (try clear hb); (try clear hb2); (try clear hk); (try clear hi)))
     go_ret
     exact ⟨by first | rfl | (simp [errW_none, errW_some] <;> rfl) | (simp [*, errW_none, errW_some] <;> rfl), by repeat (first | (with_reducible first | exact HB.out | apply below_alloc | apply pw_below_drewN | apply below_drew1) | exact HB.out)⟩
    ·rw [if_neg c13] at H
     have c13b0 : (t336 == t338) = false := beq_eq_false_iff_ne.mpr c13
     have c13b1 : (t336 != t338) = true := bne_iff_ne.mpr c13
     obtain rfl := Option.some.inj H
     go_enter Tryd.func6, Tryd.ntmps6
     go_wp2_with (first | ((with_reducible refine gate_callee (f := 13) rfl ?_); refine goesL_ (some 13) rfl rfl Tryd.func13 (by kernel_rfl) rfl #[] rfl (by (try simp only [List.map_toArray, List.map_cons, List.map_nil]); first | done | rfl | (simp only [List.length_drop, List.length_take]; rfl)) ?_; (with_reducible refine (galleylaw22_wakes.calls  true _ ?side1 A3.out).mono ?_); (case side1 => exact laid_below HLB.out (by repeat (first | (with_reducible first | exact HB.out | apply below_alloc | apply pw_below_drewN | apply below_drew1) | exact HB.out))); rintro e w23 ⟨rfl, hb⟩; refine ⟨_, rfl, ?_⟩; have n0_ := Aside0.mk (below_step (by repeat (first | (with_reducible first | exact HB.out | apply below_alloc | apply pw_below_drewN | apply below_drew1) | exact HB.out)) hb); clear HB; have HB := n0_; clear n0_; (try clear hb); (try clear hb2); (try clear hk); (try clear hi)) | ((with_reducible refine gate_callee (f := 18) rfl ?_); refine goesL_ (some 17) rfl rfl Tryd.func18 (by kernel_rfl) rfl #[.slice A0 l0.length c0] rfl (by (try simp only [List.map_toArray, List.map_cons, List.map_nil]); first | done | rfl | (simp only [List.length_drop, List.length_take]; rfl)) ?_; (with_reducible refine (galleylaw22_own.calls _ _ l0 t326 _ ?side1 ?side2 A5.out).mono ?_); (case side1 => repeat (first | exact (Kd.C_below HR0.out HB.out) | (with_reducible refine Kd.C_alloc ?_ _) | (with_reducible refine Kd.C_drewN ?_ _) | (with_reducible refine Kd.C_drew ?_))); (case side2 => exact HC0.out); rintro e w24 ⟨v327, rfl, ho0, hb⟩; refine ⟨_, rfl, ?_⟩; have n0_ := Aside0.mk (Kd.R_lower ho0 (below_size (by repeat (first | (with_reducible first | exact HB.out | apply below_alloc | apply pw_below_drewN | apply below_drew1) | exact HB.out)))); have n1_ := Aside0.mk (below_step (by repeat (first | (with_reducible first | exact HB.out | apply below_alloc | apply pw_below_drewN | apply below_drew1) | exact HB.out)) hb); clear HB; have HO328 := n0_; have HB := n1_; clear n0_ n1_; (try clear hb); (try clear hb2); (try clear hk); (try clear hi); (try clear ho0); obtain ⟨Ao25, co25, eo25⟩ := Kd.R_slice HO328.out; subst eo25) | ((with_reducible refine gate_callee (f := 22) rfl ?_); refine goesL_ (some 19) rfl rfl Tryd.func22 (by kernel_rfl) rfl #[.slice Ao25 t326.length co25, .int .i64 a1] rfl (by (try simp only [List.map_toArray, List.map_cons, List.map_nil]); first | done | rfl | (simp only [List.length_drop, List.length_take]; rfl)) ?_; (with_reducible refine (words_Next.calls k _ _ t326 a1 t329 t330 _ ?side1 ?side2 ?side3 A6.out).mono ?_); (case side1 => repeat (first | exact (Kd.R_reads' HO328.out).2.2 | (with_reducible refine Kd.C_alloc ?_ _) | (with_reducible refine Kd.C_drewN ?_ _) | (with_reducible refine Kd.C_drew ?_))); (case side2 => exact (Kd.R_reads' HO328.out).2.1); (case side3 => exact laid_below HLB.out (by repeat (first | (with_reducible first | exact HB.out | apply below_alloc | apply pw_below_drewN | apply below_drew1) | exact HB.out))); rintro e w26 ⟨rfl, hb⟩; refine ⟨_, rfl, ?_⟩; have n0_ := Aside0.mk (Kd.R_below (by (with_reducible repeat (first | apply Kd.R_alloc | apply Kd.R_drewN | apply Kd.R_drew)); exact HO328.out) hb); have n1_ := Aside0.mk (below_step (by repeat (first | (with_reducible first | exact HB.out | apply below_alloc | apply pw_below_drewN | apply below_drew1) | exact HB.out)) hb); clear HO328; clear HB; have HO328 := n0_; have HB := n1_; clear n0_ n1_; (try clear hb); (try clear hb2); (try clear hk); (try clear hi)) | ((with_reducible refine gate_callee (f := 23) rfl ?_); refine goesL_ (some 25) rfl rfl Tryd.func23 (by kernel_rfl) rfl #[.slice A0 l0.length c0, .int .i64 a1] rfl (by (try simp only [List.map_toArray, List.map_cons, List.map_nil]); first | done | rfl | (simp only [List.length_drop, List.length_take]; rfl)) ?_; (with_reducible refine (galleyref22_Next.calls k _ _ l0 a1 t331 t332 _ ?side1 ?side2 A7.out).mono ?_); (case side1 => repeat (first | exact (Kd.C_below HR0.out HB.out) | (with_reducible refine Kd.C_alloc ?_ _) | (with_reducible refine Kd.C_drewN ?_ _) | (with_reducible refine Kd.C_drew ?_))); (case side2 => exact HC0.out); rintro e w27 ⟨rfl, hb⟩; refine ⟨_, rfl, ?_⟩; have n0_ := Aside0.mk (Kd.R_below (by (with_reducible repeat (first | apply Kd.R_alloc | apply Kd.R_drewN | apply Kd.R_drew)); exact HO328.out) hb); have n1_ := Aside0.mk (below_step (by repeat (first | (with_reducible first | exact HB.out | apply below_alloc | apply pw_below_drewN | apply below_drew1) | exact HB.out)) hb); clear HO328; clear HB; have HO328 := n0_; have HB := n1_; clear n0_ n1_; (try clear hb); (try clear hb2); (try clear hk); (try clear hi)) | ((with_reducible refine gate_callee (f := 18) rfl ?_); refine goesL_ (some 30) rfl rfl Tryd.func18 (by kernel_rfl) rfl #[.slice A0 l0.length c0] rfl (by (try simp only [List.map_toArray, List.map_cons, List.map_nil]); first | done | rfl | (simp only [List.length_drop, List.length_take]; rfl)) ?_; (with_reducible refine (galleylaw22_own.calls _ _ l0 t333 _ ?side1 ?side2 A8.out).mono ?_); (case side1 => repeat (first | exact (Kd.C_below HR0.out HB.out) | (with_reducible refine Kd.C_alloc ?_ _) | (with_reducible refine Kd.C_drewN ?_ _) | (with_reducible refine Kd.C_drew ?_))); (case side2 => exact HC0.out); rintro e w28 ⟨v334, rfl, ho0, hb⟩; refine ⟨_, rfl, ?_⟩; have n0_ := Aside0.mk (Kd.R_elder' (by (with_reducible repeat (first | apply Kd.R_alloc | apply Kd.R_drewN | apply Kd.R_drew)); exact HO328.out) (Kd.R_base ho0) hb); have n1_ := Aside0.mk (Kd.R_lower (Kd.R_new' ho0 (Kd.R_lt (by (with_reducible repeat (first | apply Kd.R_alloc | apply Kd.R_drewN | apply Kd.R_drew)); exact HO328.out))) (below_size (by repeat (first | (with_reducible first | exact HB.out | apply below_alloc | apply pw_below_drewN | apply below_drew1) | exact HB.out)))); have n2_ := Aside0.mk (below_step (by repeat (first | (with_reducible first | exact HB.out | apply below_alloc | apply pw_below_drewN | apply below_drew1) | exact HB.out)) hb); clear HO328; clear HB; have HO328 := n0_; have HO335 := n1_; have HB := n2_; clear n0_ n1_ n2_; (try clear hb); (try clear hb2); (try clear hk); (try clear hi); (try clear ho0); obtain ⟨Ao29, co29, eo29⟩ := Kd.R_slice HO335.out; subst eo29) | ((with_reducible refine gate_callee (f := 24) rfl ?_); refine goesL_ (some 32) rfl rfl Tryd.func24 (by kernel_rfl) rfl #[.slice Ao29 t333.length co29, .int .i64 a1] rfl (by (try simp only [List.map_toArray, List.map_cons, List.map_nil]); first | done | rfl | (simp only [List.length_drop, List.length_take]; rfl)) ?_; (with_reducible refine (words_Prev.calls k _ _ t333 a1 t336 t337 _ ?side1 ?side2 ?side3 A9.out).mono ?_); (case side1 => repeat (first | exact (Kd.R_reads' HO335.out).2.2 | (with_reducible refine Kd.C_alloc ?_ _) | (with_reducible refine Kd.C_drewN ?_ _) | (with_reducible refine Kd.C_drew ?_))); (case side2 => exact (Kd.R_reads' HO335.out).2.1); (case side3 => exact laid_below HLB.out (by repeat (first | (with_reducible first | exact HB.out | apply below_alloc | apply pw_below_drewN | apply below_drew1) | exact HB.out))); rintro e w30 ⟨rfl, hb⟩; refine ⟨_, rfl, ?_⟩; have n0_ := Aside0.mk (Kd.R_below (by (with_reducible repeat (first | apply Kd.R_alloc | apply Kd.R_drewN | apply Kd.R_drew)); exact HO328.out) hb); have n1_ := Aside0.mk (Kd.R_below (by (with_reducible repeat (first | apply Kd.R_alloc | apply Kd.R_drewN | apply Kd.R_drew)); exact HO335.out) hb); have n2_ := Aside0.mk (below_step (by repeat (first | (with_reducible first | exact HB.out | apply below_alloc | apply pw_below_drewN | apply below_drew1) | exact HB.out)) hb); clear HO328; clear HO335; clear HB; have HO328 := n0_; have HO335 := n1_; have HB := n2_; clear n0_ n1_ n2_; (try clear hb); (try clear hb2); (try clear hk); (try clear hi)) | ((with_reducible refine gate_callee (f := 25) rfl ?_); refine goesL_ (some 38) rfl rfl Tryd.func25 (by kernel_rfl) rfl #[.slice A0 l0.length c0, .int .i64 a1] rfl (by (try simp only [List.map_toArray, List.map_cons, List.map_nil]); first | done | rfl | (simp only [List.length_drop, List.length_take]; rfl)) ?_; (with_reducible refine (galleyref22_Prev.calls k _ _ l0 a1 t338 t339 _ ?side1 ?side2 A10.out).mono ?_); (case side1 => repeat (first | exact (Kd.C_below HR0.out HB.out) | (with_reducible refine Kd.C_alloc ?_ _) | (with_reducible refine Kd.C_drewN ?_ _) | (with_reducible refine Kd.C_drew ?_))); (case side2 => exact HC0.out); rintro e w31 ⟨rfl, hb⟩; refine ⟨_, rfl, ?_⟩; have n0_ := Aside0.mk (Kd.R_below (by (with_reducible repeat (first | apply Kd.R_alloc | apply Kd.R_drewN | apply Kd.R_drew)); exact HO328.out) hb); have n1_ := Aside0.mk (Kd.R_below (by (with_reducible repeat (first | apply Kd.R_alloc | apply Kd.R_drewN | apply Kd.R_drew)); exact HO335.out) hb); have n2_ := Aside0.mk (below_step (by repeat (first | (with_reducible first | exact HB.out | apply below_alloc | apply pw_below_drewN | apply below_drew1) | exact HB.out)) hb); clear HO328; clear HO335; clear HB; have HO328 := n0_; have HO335 := n1_; have HB := n2_; clear n0_ n1_ n2_; (try clear hb); (try clear hb2); (try clear hk); (try clear hi)))
     go_ret
     exact ⟨by first | rfl | (simp [errW_none, errW_some] <;> rfl) | (simp [*, errW_none, errW_some] <;> rfl), by repeat (first | (with_reducible first | exact HB.out | apply below_alloc | apply pw_below_drewN | apply below_drew1) | exact HB.out)⟩
   ·rw [if_neg c12] at H
    have c12b0 : (t330 == t332) = false := beq_eq_false_iff_ne.mpr c12
    have c12b1 : (t330 != t332) = true := bne_iff_ne.mpr c12
    obtain rfl := Option.some.inj H
    go_enter Tryd.func6, Tryd.ntmps6
    go_wp2_with (first | ((with_reducible refine gate_callee (f := 13) rfl ?_); refine goesL_ (some 13) rfl rfl Tryd.func13 (by kernel_rfl) rfl #[] rfl (by (try simp only [List.map_toArray, List.map_cons, List.map_nil]); first | done | rfl | (simp only [List.length_drop, List.length_take]; rfl)) ?_; (with_reducible refine (galleylaw22_wakes.calls  true _ ?side1 A3.out).mono ?_); (case side1 => exact laid_below HLB.out (by repeat (first | (with_reducible first | exact HB.out | apply below_alloc | apply pw_below_drewN | apply below_drew1) | exact HB.out))); rintro e w32 ⟨rfl, hb⟩; refine ⟨_, rfl, ?_⟩; have n0_ := Aside0.mk (below_step (by repeat (first | (with_reducible first | exact HB.out | apply below_alloc | apply pw_below_drewN | apply below_drew1) | exact HB.out)) hb); clear HB; have HB := n0_; clear n0_; (try clear hb); (try clear hb2); (try clear hk); (try clear hi)) | ((with_reducible refine gate_callee (f := 18) rfl ?_); refine goesL_ (some 17) rfl rfl Tryd.func18 (by kernel_rfl) rfl #[.slice A0 l0.length c0] rfl (by (try simp only [List.map_toArray, List.map_cons, List.map_nil]); first | done | rfl | (simp only [List.length_drop, List.length_take]; rfl)) ?_; (with_reducible refine (galleylaw22_own.calls _ _ l0 t326 _ ?side1 ?side2 A5.out).mono ?_); (case side1 => repeat (first | exact (Kd.C_below HR0.out HB.out) | (with_reducible refine Kd.C_alloc ?_ _) | (with_reducible refine Kd.C_drewN ?_ _) | (with_reducible refine Kd.C_drew ?_))); (case side2 => exact HC0.out); rintro e w33 ⟨v327, rfl, ho0, hb⟩; refine ⟨_, rfl, ?_⟩; have n0_ := Aside0.mk (Kd.R_lower ho0 (below_size (by repeat (first | (with_reducible first | exact HB.out | apply below_alloc | apply pw_below_drewN | apply below_drew1) | exact HB.out)))); have n1_ := Aside0.mk (below_step (by repeat (first | (with_reducible first | exact HB.out | apply below_alloc | apply pw_below_drewN | apply below_drew1) | exact HB.out)) hb); clear HB; have HO328 := n0_; have HB := n1_; clear n0_ n1_; (try clear hb); (try clear hb2); (try clear hk); (try clear hi); (try clear ho0); obtain ⟨Ao34, co34, eo34⟩ := Kd.R_slice HO328.out; subst eo34) | ((with_reducible refine gate_callee (f := 22) rfl ?_); refine goesL_ (some 19) rfl rfl Tryd.func22 (by kernel_rfl) rfl #[.slice Ao34 t326.length co34, .int .i64 a1] rfl (by (try simp only [List.map_toArray, List.map_cons, List.map_nil]); first | done | rfl | (simp only [List.length_drop, List.length_take]; rfl)) ?_; (with_reducible refine (words_Next.calls k _ _ t326 a1 t329 t330 _ ?side1 ?side2 ?side3 A6.out).mono ?_); (case side1 => repeat (first | exact (Kd.R_reads' HO328.out).2.2 | (with_reducible refine Kd.C_alloc ?_ _) | (with_reducible refine Kd.C_drewN ?_ _) | (with_reducible refine Kd.C_drew ?_))); (case side2 => exact (Kd.R_reads' HO328.out).2.1); (case side3 => exact laid_below HLB.out (by repeat (first | (with_reducible first | exact HB.out | apply below_alloc | apply pw_below_drewN | apply below_drew1) | exact HB.out))); rintro e w35 ⟨rfl, hb⟩; refine ⟨_, rfl, ?_⟩; have n0_ := Aside0.mk (Kd.R_below (by (with_reducible repeat (first | apply Kd.R_alloc | apply Kd.R_drewN | apply Kd.R_drew)); exact HO328.out) hb); have n1_ := Aside0.mk (below_step (by repeat (first | (with_reducible first | exact HB.out | apply below_alloc | apply pw_below_drewN | apply below_drew1) | exact HB.out)) hb); clear HO328; clear HB; have HO328 := n0_; have HB := n1_; clear n0_ n1_; (try clear hb); (try clear hb2); (try clear hk); (try clear hi)) | ((with_reducible refine gate_callee (f := 23) rfl ?_); refine goesL_ (some 25) rfl rfl Tryd.func23 (by kernel_rfl) rfl #[.slice A0 l0.length c0, .int .i64 a1] rfl (by (try simp only [List.map_toArray, List.map_cons, List.map_nil]); first | done | rfl | (simp only [List.length_drop, List.length_take]; rfl)) ?_; (with_reducible refine (galleyref22_Next.calls k _ _ l0 a1 t331 t332 _ ?side1 ?side2 A7.out).mono ?_); (case side1 => repeat (first | exact (Kd.C_below HR0.out HB.out) | (with_reducible refine Kd.C_alloc ?_ _) | (with_reducible refine Kd.C_drewN ?_ _) | (with_reducible refine Kd.C_drew ?_))); (case side2 => exact HC0.out); rintro e w36 ⟨rfl, hb⟩; refine ⟨_, rfl, ?_⟩; have n0_ := Aside0.mk (Kd.R_below (by (with_reducible repeat (first | apply Kd.R_alloc | apply Kd.R_drewN | apply Kd.R_drew)); exact HO328.out) hb); have n1_ := Aside0.mk (below_step (by repeat (first | (with_reducible first | exact HB.out | apply below_alloc | apply pw_below_drewN | apply below_drew1) | exact HB.out)) hb); clear HO328; clear HB; have HO328 := n0_; have HB := n1_; clear n0_ n1_; (try clear hb); (try clear hb2); (try clear hk); (try clear hi)) | ((with_reducible refine gate_callee (f := 18) rfl ?_); refine goesL_ (some 30) rfl rfl Tryd.func18 (by kernel_rfl) rfl #[.slice A0 l0.length c0] rfl (by (try simp only [List.map_toArray, List.map_cons, List.map_nil]); first | done | rfl | (simp only [List.length_drop, List.length_take]; rfl)) ?_; (with_reducible refine (galleylaw22_own.calls _ _ l0 t333 _ ?side1 ?side2 A8.out).mono ?_); (case side1 => repeat (first | exact (Kd.C_below HR0.out HB.out) | (with_reducible refine Kd.C_alloc ?_ _) | (with_reducible refine Kd.C_drewN ?_ _) | (with_reducible refine Kd.C_drew ?_))); (case side2 => exact HC0.out); rintro e w37 ⟨v334, rfl, ho0, hb⟩; refine ⟨_, rfl, ?_⟩; have n0_ := Aside0.mk (Kd.R_elder' (by (with_reducible repeat (first | apply Kd.R_alloc | apply Kd.R_drewN | apply Kd.R_drew)); exact HO328.out) (Kd.R_base ho0) hb); have n1_ := Aside0.mk (Kd.R_lower (Kd.R_new' ho0 (Kd.R_lt (by (with_reducible repeat (first | apply Kd.R_alloc | apply Kd.R_drewN | apply Kd.R_drew)); exact HO328.out))) (below_size (by repeat (first | (with_reducible first | exact HB.out | apply below_alloc | apply pw_below_drewN | apply below_drew1) | exact HB.out)))); have n2_ := Aside0.mk (below_step (by repeat (first | (with_reducible first | exact HB.out | apply below_alloc | apply pw_below_drewN | apply below_drew1) | exact HB.out)) hb); clear HO328; clear HB; have HO328 := n0_; have HO335 := n1_; have HB := n2_; clear n0_ n1_ n2_; (try clear hb); (try clear hb2); (try clear hk); (try clear hi); (try clear ho0); obtain ⟨Ao38, co38, eo38⟩ := Kd.R_slice HO335.out; subst eo38) | ((with_reducible refine gate_callee (f := 24) rfl ?_); refine goesL_ (some 32) rfl rfl Tryd.func24 (by kernel_rfl) rfl #[.slice Ao38 t333.length co38, .int .i64 a1] rfl (by (try simp only [List.map_toArray, List.map_cons, List.map_nil]); first | done | rfl | (simp only [List.length_drop, List.length_take]; rfl)) ?_; (with_reducible refine (words_Prev.calls k _ _ t333 a1 t336 t337 _ ?side1 ?side2 ?side3 A9.out).mono ?_); (case side1 => repeat (first | exact (Kd.R_reads' HO335.out).2.2 | (with_reducible refine Kd.C_alloc ?_ _) | (with_reducible refine Kd.C_drewN ?_ _) | (with_reducible refine Kd.C_drew ?_))); (case side2 => exact (Kd.R_reads' HO335.out).2.1); (case side3 => exact laid_below HLB.out (by repeat (first | (with_reducible first | exact HB.out | apply below_alloc | apply pw_below_drewN | apply below_drew1) | exact HB.out))); rintro e w39 ⟨rfl, hb⟩; refine ⟨_, rfl, ?_⟩; have n0_ := Aside0.mk (Kd.R_below (by (with_reducible repeat (first | apply Kd.R_alloc | apply Kd.R_drewN | apply Kd.R_drew)); exact HO328.out) hb); have n1_ := Aside0.mk (Kd.R_below (by (with_reducible repeat (first | apply Kd.R_alloc | apply Kd.R_drewN | apply Kd.R_drew)); exact HO335.out) hb); have n2_ := Aside0.mk (below_step (by repeat (first | (with_reducible first | exact HB.out | apply below_alloc | apply pw_below_drewN | apply below_drew1) | exact HB.out)) hb); clear HO328; clear HO335; clear HB; have HO328 := n0_; have HO335 := n1_; have HB := n2_; clear n0_ n1_ n2_; (try clear hb); (try clear hb2); (try clear hk); (try clear hi)) | ((with_reducible refine gate_callee (f := 25) rfl ?_); refine goesL_ (some 38) rfl rfl Tryd.func25 (by kernel_rfl) rfl #[.slice A0 l0.length c0, .int .i64 a1] rfl (by (try simp only [List.map_toArray, List.map_cons, List.map_nil]); first | done | rfl | (simp only [List.length_drop, List.length_take]; rfl)) ?_; (with_reducible refine (galleyref22_Prev.calls k _ _ l0 a1 t338 t339 _ ?side1 ?side2 A10.out).mono ?_); (case side1 => repeat (first | exact (Kd.C_below HR0.out HB.out) | (with_reducible refine Kd.C_alloc ?_ _) | (with_reducible refine Kd.C_drewN ?_ _) | (with_reducible refine Kd.C_drew ?_))); (case side2 => exact HC0.out); rintro e w40 ⟨rfl, hb⟩; refine ⟨_, rfl, ?_⟩; have n0_ := Aside0.mk (Kd.R_below (by (with_reducible repeat (first | apply Kd.R_alloc | apply Kd.R_drewN | apply Kd.R_drew)); exact HO328.out) hb); have n1_ := Aside0.mk (Kd.R_below (by (with_reducible repeat (first | apply Kd.R_alloc | apply Kd.R_drewN | apply Kd.R_drew)); exact HO335.out) hb); have n2_ := Aside0.mk (below_step (by repeat (first | (with_reducible first | exact HB.out | apply below_alloc | apply pw_below_drewN | apply below_drew1) | exact HB.out)) hb); clear HO328; clear HO335; clear HB; have HO328 := n0_; have HO335 := n1_; have HB := n2_; clear n0_ n1_ n2_; (try clear hb); (try clear hb2); (try clear hk); (try clear hi)))
    go_ret
    exact ⟨by first | rfl | (simp [errW_none, errW_some] <;> rfl) | (simp [*, errW_none, errW_some] <;> rfl), by repeat (first | (with_reducible first | exact HB.out | apply below_alloc | apply pw_below_drewN | apply below_drew1) | exact HB.out)⟩
  ·rw [if_neg c11] at H
   have c11b0 : (t329 == t331) = false := beq_eq_false_iff_ne.mpr c11
   have c11b1 : (t329 != t331) = true := bne_iff_ne.mpr c11
   obtain rfl := Option.some.inj H
   go_enter Tryd.func6, Tryd.ntmps6
   go_wp2_with (first | ((with_reducible refine gate_callee (f := 13) rfl ?_); refine goesL_ (some 13) rfl rfl Tryd.func13 (by kernel_rfl) rfl #[] rfl (by (try simp only [List.map_toArray, List.map_cons, List.map_nil]); first | done | rfl | (simp only [List.length_drop, List.length_take]; rfl)) ?_; (with_reducible refine (galleylaw22_wakes.calls  true _ ?side1 A3.out).mono ?_); (case side1 => exact laid_below HLB.out (by repeat (first | (with_reducible first | exact HB.out | apply below_alloc | apply pw_below_drewN | apply below_drew1) | exact HB.out))); rintro e w41 ⟨rfl, hb⟩; refine ⟨_, rfl, ?_⟩; have n0_ := Aside0.mk (below_step (by repeat (first | (with_reducible first | exact HB.out | apply below_alloc | apply pw_below_drewN | apply below_drew1) | exact HB.out)) hb); clear HB; have HB := n0_; clear n0_; (try clear hb); (try clear hb2); (try clear hk); (try clear hi)) | ((with_reducible refine gate_callee (f := 18) rfl ?_); refine goesL_ (some 17) rfl rfl Tryd.func18 (by kernel_rfl) rfl #[.slice A0 l0.length c0] rfl (by (try simp only [List.map_toArray, List.map_cons, List.map_nil]); first | done | rfl | (simp only [List.length_drop, List.length_take]; rfl)) ?_; (with_reducible refine (galleylaw22_own.calls _ _ l0 t326 _ ?side1 ?side2 A5.out).mono ?_); (case side1 => repeat (first | exact (Kd.C_below HR0.out HB.out) | (with_reducible refine Kd.C_alloc ?_ _) | (with_reducible refine Kd.C_drewN ?_ _) | (with_reducible refine Kd.C_drew ?_))); (case side2 => exact HC0.out); rintro e w42 ⟨v327, rfl, ho0, hb⟩; refine ⟨_, rfl, ?_⟩; have n0_ := Aside0.mk (Kd.R_lower ho0 (below_size (by repeat (first | (with_reducible first | exact HB.out | apply below_alloc | apply pw_below_drewN | apply below_drew1) | exact HB.out)))); have n1_ := Aside0.mk (below_step (by repeat (first | (with_reducible first | exact HB.out | apply below_alloc | apply pw_below_drewN | apply below_drew1) | exact HB.out)) hb); clear HB; have HO328 := n0_; have HB := n1_; clear n0_ n1_; (try clear hb); (try clear hb2); (try clear hk); (try clear hi); (try clear ho0); obtain ⟨Ao43, co43, eo43⟩ := Kd.R_slice HO328.out; subst eo43) | ((with_reducible refine gate_callee (f := 22) rfl ?_); refine goesL_ (some 19) rfl rfl Tryd.func22 (by kernel_rfl) rfl #[.slice Ao43 t326.length co43, .int .i64 a1] rfl (by (try simp only [List.map_toArray, List.map_cons, List.map_nil]); first | done | rfl | (simp only [List.length_drop, List.length_take]; rfl)) ?_; (with_reducible refine (words_Next.calls k _ _ t326 a1 t329 t330 _ ?side1 ?side2 ?side3 A6.out).mono ?_); (case side1 => repeat (first | exact (Kd.R_reads' HO328.out).2.2 | (with_reducible refine Kd.C_alloc ?_ _) | (with_reducible refine Kd.C_drewN ?_ _) | (with_reducible refine Kd.C_drew ?_))); (case side2 => exact (Kd.R_reads' HO328.out).2.1); (case side3 => exact laid_below HLB.out (by repeat (first | (with_reducible first | exact HB.out | apply below_alloc | apply pw_below_drewN | apply below_drew1) | exact HB.out))); rintro e w44 ⟨rfl, hb⟩; refine ⟨_, rfl, ?_⟩; have n0_ := Aside0.mk (Kd.R_below (by (with_reducible repeat (first | apply Kd.R_alloc | apply Kd.R_drewN | apply Kd.R_drew)); exact HO328.out) hb); have n1_ := Aside0.mk (below_step (by repeat (first | (with_reducible first | exact HB.out | apply below_alloc | apply pw_below_drewN | apply below_drew1) | exact HB.out)) hb); clear HO328; clear HB; have HO328 := n0_; have HB := n1_; clear n0_ n1_; (try clear hb); (try clear hb2); (try clear hk); (try clear hi)) | ((with_reducible refine gate_callee (f := 23) rfl ?_); refine goesL_ (some 25) rfl rfl Tryd.func23 (by kernel_rfl) rfl #[.slice A0 l0.length c0, .int .i64 a1] rfl (by (try simp only [List.map_toArray, List.map_cons, List.map_nil]); first | done | rfl | (simp only [List.length_drop, List.length_take]; rfl)) ?_; (with_reducible refine (galleyref22_Next.calls k _ _ l0 a1 t331 t332 _ ?side1 ?side2 A7.out).mono ?_); (case side1 => repeat (first | exact (Kd.C_below HR0.out HB.out) | (with_reducible refine Kd.C_alloc ?_ _) | (with_reducible refine Kd.C_drewN ?_ _) | (with_reducible refine Kd.C_drew ?_))); (case side2 => exact HC0.out); rintro e w45 ⟨rfl, hb⟩; refine ⟨_, rfl, ?_⟩; have n0_ := Aside0.mk (Kd.R_below (by (with_reducible repeat (first | apply Kd.R_alloc | apply Kd.R_drewN | apply Kd.R_drew)); exact HO328.out) hb); have n1_ := Aside0.mk (below_step (by repeat (first | (with_reducible first | exact HB.out | apply below_alloc | apply pw_below_drewN | apply below_drew1) | exact HB.out)) hb); clear HO328; clear HB; have HO328 := n0_; have HB := n1_; clear n0_ n1_; (try clear hb); (try clear hb2); (try clear hk); (try clear hi)) | ((with_reducible refine gate_callee (f := 18) rfl ?_); refine goesL_ (some 30) rfl rfl Tryd.func18 (by kernel_rfl) rfl #[.slice A0 l0.length c0] rfl (by (try simp only [List.map_toArray, List.map_cons, List.map_nil]); first | done | rfl | (simp only [List.length_drop, List.length_take]; rfl)) ?_; (with_reducible refine (galleylaw22_own.calls _ _ l0 t333 _ ?side1 ?side2 A8.out).mono ?_); (case side1 => repeat (first | exact (Kd.C_below HR0.out HB.out) | (with_reducible refine Kd.C_alloc ?_ _) | (with_reducible refine Kd.C_drewN ?_ _) | (with_reducible refine Kd.C_drew ?_))); (case side2 => exact HC0.out); rintro e w46 ⟨v334, rfl, ho0, hb⟩; refine ⟨_, rfl, ?_⟩; have n0_ := Aside0.mk (Kd.R_elder' (by (with_reducible repeat (first | apply Kd.R_alloc | apply Kd.R_drewN | apply Kd.R_drew)); exact HO328.out) (Kd.R_base ho0) hb); have n1_ := Aside0.mk (Kd.R_lower (Kd.R_new' ho0 (Kd.R_lt (by (with_reducible repeat (first | apply Kd.R_alloc | apply Kd.R_drewN | apply Kd.R_drew)); exact HO328.out))) (below_size (by repeat (first | (with_reducible first | exact HB.out | apply below_alloc | apply pw_below_drewN | apply below_drew1) | exact HB.out)))); have n2_ := Aside0.mk (below_step (by repeat (first | (with_reducible first | exact HB.out | apply below_alloc | apply pw_below_drewN | apply below_drew1) | exact HB.out)) hb); clear HO328; clear HB; have HO328 := n0_; have HO335 := n1_; have HB := n2_; clear n0_ n1_ n2_; (try clear hb); (try clear hb2); (try clear hk); (try clear hi); (try clear ho0); obtain ⟨Ao47, co47, eo47⟩ := Kd.R_slice HO335.out; subst eo47) | ((with_reducible refine gate_callee (f := 24) rfl ?_); refine goesL_ (some 32) rfl rfl Tryd.func24 (by kernel_rfl) rfl #[.slice Ao47 t333.length co47, .int .i64 a1] rfl (by (try simp only [List.map_toArray, List.map_cons, List.map_nil]); first | done | rfl | (simp only [List.length_drop, List.length_take]; rfl)) ?_; (with_reducible refine (words_Prev.calls k _ _ t333 a1 t336 t337 _ ?side1 ?side2 ?side3 A9.out).mono ?_); (case side1 => repeat (first | exact (Kd.R_reads' HO335.out).2.2 | (with_reducible refine Kd.C_alloc ?_ _) | (with_reducible refine Kd.C_drewN ?_ _) | (with_reducible refine Kd.C_drew ?_))); (case side2 => exact (Kd.R_reads' HO335.out).2.1); (case side3 => exact laid_below HLB.out (by repeat (first | (with_reducible first | exact HB.out | apply below_alloc | apply pw_below_drewN | apply below_drew1) | exact HB.out))); rintro e w48 ⟨rfl, hb⟩; refine ⟨_, rfl, ?_⟩; have n0_ := Aside0.mk (Kd.R_below (by (with_reducible repeat (first | apply Kd.R_alloc | apply Kd.R_drewN | apply Kd.R_drew)); exact HO328.out) hb); have n1_ := Aside0.mk (Kd.R_below (by (with_reducible repeat (first | apply Kd.R_alloc | apply Kd.R_drewN | apply Kd.R_drew)); exact HO335.out) hb); have n2_ := Aside0.mk (below_step (by repeat (first | (with_reducible first | exact HB.out | apply below_alloc | apply pw_below_drewN | apply below_drew1) | exact HB.out)) hb); clear HO328; clear HO335; clear HB; have HO328 := n0_; have HO335 := n1_; have HB := n2_; clear n0_ n1_ n2_; (try clear hb); (try clear hb2); (try clear hk); (try clear hi)) | ((with_reducible refine gate_callee (f := 25) rfl ?_); refine goesL_ (some 38) rfl rfl Tryd.func25 (by kernel_rfl) rfl #[.slice A0 l0.length c0, .int .i64 a1] rfl (by (try simp only [List.map_toArray, List.map_cons, List.map_nil]); first | done | rfl | (simp only [List.length_drop, List.length_take]; rfl)) ?_; (with_reducible refine (galleyref22_Prev.calls k _ _ l0 a1 t338 t339 _ ?side1 ?side2 A10.out).mono ?_); (case side1 => repeat (first | exact (Kd.C_below HR0.out HB.out) | (with_reducible refine Kd.C_alloc ?_ _) | (with_reducible refine Kd.C_drewN ?_ _) | (with_reducible refine Kd.C_drew ?_))); (case side2 => exact HC0.out); rintro e w49 ⟨rfl, hb⟩; refine ⟨_, rfl, ?_⟩; have n0_ := Aside0.mk (Kd.R_below (by (with_reducible repeat (first | apply Kd.R_alloc | apply Kd.R_drewN | apply Kd.R_drew)); exact HO328.out) hb); have n1_ := Aside0.mk (Kd.R_below (by (with_reducible repeat (first | apply Kd.R_alloc | apply Kd.R_drewN | apply Kd.R_drew)); exact HO335.out) hb); have n2_ := Aside0.mk (below_step (by repeat (first | (with_reducible first | exact HB.out | apply below_alloc | apply pw_below_drewN | apply below_drew1) | exact HB.out)) hb); clear HO328; clear HO335; clear HB; have HO328 := n0_; have HO335 := n1_; have HB := n2_; clear n0_ n1_ n2_; (try clear hb); (try clear hb2); (try clear hk); (try clear hi)))
   go_ret
   exact ⟨by first | rfl | (simp [errW_none, errW_some] <;> rfl) | (simp [*, errW_none, errW_some] <;> rfl), by repeat (first | (with_reducible first | exact HB.out | apply below_alloc | apply pw_below_drewN | apply below_drew1) | exact HB.out)⟩
 ·replace c4 := Bool.eq_false_iff.mpr c4
  subst c4
  have H1 : (some false) = some r := by rw [if_neg (show ¬ (false = true) by decide)] at H; exact H
  clear H
  have H := H1
  clear H1
  obtain rfl := Option.some.inj H
  go_enter Tryd.func6, Tryd.ntmps6
  go_wp2_with (first | ((with_reducible refine gate_callee (f := 13) rfl ?_); refine goesL_ (some 13) rfl rfl Tryd.func13 (by kernel_rfl) rfl #[] rfl (by (try simp only [List.map_toArray, List.map_cons, List.map_nil]); first | done | rfl | (simp only [List.length_drop, List.length_take]; rfl)) ?_; (with_reducible refine (galleylaw22_wakes.calls  false _ ?side1 A3.out).mono ?_); (case side1 => exact laid_below HLB.out (by repeat (first | (with_reducible first | exact HB.out | apply below_alloc | apply pw_below_drewN | apply below_drew1) | exact HB.out))); rintro e w50 ⟨rfl, hb⟩; refine ⟨_, rfl, ?_⟩; have n0_ := Aside0.mk (below_step (by repeat (first | (with_reducible first | exact HB.out | apply below_alloc | apply pw_below_drewN | apply below_drew1) | exact HB.out)) hb); clear HB; have HB := n0_; clear n0_; (try clear hb); (try clear hb2); (try clear hk); (try clear hi)))
  go_ret
  exact ⟨by first | rfl | (simp [errW_none, errW_some] <;> rfl) | (simp [*, errW_none, errW_some] <;> rfl), by repeat (first | (with_reducible first | exact HB.out | apply below_alloc | apply pw_below_drewN | apply below_drew1) | exact HB.out)⟩

end Go.Proofs.YtijbkiajhicooaaDoor.PW

namespace Go.Proofs.YtijbkiajhicooaaDoor.PW
open Go.RowKit Go.Proofs.YtijbkiajhicooaaDoorW.PrintWords Go.Proofs.YtijbkiajhicooaaDoorW.PrintLast Go.Proofs.YtijbkiajhicooaaDoorW.PrintMore
attribute [local go_sem] max2_int min2_int max_two min_two max_three min_three max_four min_four   -- for this text's walks alone
set_option linter.unusedVariables false
set_option linter.unusedSimpArgs false

def Bytes (l : List Int) : Prop := ∀ x ∈ l, 0 ≤ x ∧ x ≤ 255
theorem bytes_of_wf {l : List Int} (h : ∀ x ∈ l, (Lit.int .u8 x).wf = true) : Bytes l := fun x hx => by
 have := h x hx
 simp [Lit.wf] at this
 exact ⟨this.1, this.2⟩
theorem Bytes.drop {l : List Int} (h : Bytes l) (n : Nat) : Bytes (l.drop n) := fun x hx => h x (List.mem_of_mem_drop hx)
theorem rd_byte {l : List Int} (h : Bytes l) (p : Int) : 0 ≤ rd l p ∧ rd l p ≤ 255 := by
 unfold rd
 rw [List.getD_eq_getElem?_getD]
 cases hg : l[p.toNat]? with
 | none => exact ⟨Int.le_refl _, by decide⟩
 | some x => exact h x (List.mem_of_getElem? hg)
theorem wrap64_small {n : Int} (h0 : -9223372036854775808 ≤ n) (h1 : n ≤ 9223372036854775807) : wrap64 n = n := by unfold wrap64; omega
theorem atI_in {l : List Int} (hb : Bytes l) (p : Nat) (h : p < l.length) : atI l (p : Int) = l.getD p 0 ∧ 0 ≤ l.getD p 0 ∧ l.getD p 0 ≤ 255 := by
 have h1 := rd_byte hb (p : Int)
 have e : rd l (p : Int) = l.getD p 0 := by unfold rd; simp
 rw [e] at h1
 unfold atI
 rw [if_neg (by omega), e, wrap64_small (by omega) (by omega)]
 exact ⟨rfl, h1⟩
theorem atI_out (l : List Int) (p : Int) (h : p < 0 ∨ (l.length : Int) ≤ p) : atI l p = -1 := by
 unfold atI
 rw [if_pos (by omega)]
/-- The byte that decoding reads. -/
theorem getB {l : List Int} (hb : Bytes l) (p : Nat) (h : p < l.length) : (((strOfNums l).get! p).toNat : Int) = atI l (p : Int) := by
 obtain ⟨e, h0, h1⟩ := atI_in hb p h
 rw [e]
 have hg : l.getD p 0 = l[p] := by simp [List.getD, h]
 have : (strOfNums l).get! p = UInt8.ofNat (l[p]).toNat := by
  simp [ByteArray.get!, strOfNums, getElem!_def, h]
 rw [this, hg]
 rw [hg] at h0 h1
 simp
 omega
/-- Decoding, by the bytes at the place and behind it (-1: none). -/
def decV (x y z w : Int) : Int × Nat :=
 if x < 128 then (x, 1)
 else if x / 32 = 6 ∧ y / 64 = 2 then (if x % 32 * 64 + y % 64 ≥ 128 then (x % 32 * 64 + y % 64, 2) else (65533, 1))
 else if x / 16 = 14 ∧ y / 64 = 2 ∧ z / 64 = 2 then
  (if x % 16 * 4096 + y % 64 * 64 + z % 64 ≥ 2048 ∧ ¬ (55296 ≤ x % 16 * 4096 + y % 64 * 64 + z % 64 ∧ x % 16 * 4096 + y % 64 * 64 + z % 64 < 57344) then (x % 16 * 4096 + y % 64 * 64 + z % 64, 3) else (65533, 1))
 else if x / 8 = 30 ∧ y / 64 = 2 ∧ z / 64 = 2 ∧ w / 64 = 2 then
  (if x % 8 * 262144 + y % 64 * 4096 + z % 64 * 64 + w % 64 ≥ 65536 ∧ x % 8 * 262144 + y % 64 * 4096 + z % 64 * 64 + w % 64 ≤ 1114111 then (x % 8 * 262144 + y % 64 * 4096 + z % 64 * 64 + w % 64, 4) else (65533, 1))
 else (65533, 1)
theorem contB {l : List Int} (hb : Bytes l) (p : Nat) : (decide (p < (strOfNums l).size) && ((strOfNums l).get! p).toNat / 64 == 2) = decide (atI l (p : Int) / 64 = 2) := by
 rw [strOfNums_size]
 by_cases h : p < l.length
 ·have e := getB hb p h
  rw [decide_eq_true h, Bool.true_and, ← e]
  have : ((((strOfNums l).get! p).toNat : Int) / 64 = 2) ↔ (((strOfNums l).get! p).toNat / 64 = 2) := by omega
  rw [Bool.eq_iff_iff]
  simp only [beq_iff_eq, decide_eq_true_eq]
  exact this.symm
 ·rw [decide_eq_false h, Bool.false_and, atI_out l _ (by omega)]
  rfl
set_option maxRecDepth 100000 in
set_option maxHeartbeats 400000 in
theorem decode_int {l : List Int} (hb : Bytes l) (p : Nat) (h : p < l.length) :
  (((Utf8.decode (strOfNums l) p).1 : Int), (Utf8.decode (strOfNums l) p).2) = decV (atI l (p : Int)) (atI l (p + 1 : Nat)) (atI l (p + 2 : Nat)) (atI l (p + 3 : Nat)) := by
 have e0 := getB hb p h
 obtain ⟨_, x0, x1⟩ := atI_in hb p h
 rw [← (atI_in hb p h).1] at x0 x1
 have c1 := contB hb (p + 1)
 have c2 := contB hb (p + 2)
 have c3 := contB hb (p + 3)
 have ey : ∀ q, atI l (q : Nat) / 64 = 2 → (((strOfNums l).get! q).toNat : Int) = atI l (q : Nat) := fun q hq => by
  by_cases hl : q < l.length
  ·exact getB hb q hl
  ·rw [atI_out l _ (by omega)] at hq
   omega
 have e1 := ey (p + 1)
 have e2 := ey (p + 2)
 have e3 := ey (p + 3)
 unfold Utf8.decode decV
 simp only [Nat.add_zero]
 rw [c1, c2, c3]
 clear c1 c2 c3 ey
 obtain ⟨x, hx⟩ : ∃ x, atI l (p : Int) = x := ⟨_, rfl⟩
 obtain ⟨y, hy⟩ : ∃ x, atI l (p + 1 : Nat) = x := ⟨_, rfl⟩
 obtain ⟨z, hz⟩ : ∃ x, atI l (p + 2 : Nat) = x := ⟨_, rfl⟩
 obtain ⟨v, hv⟩ : ∃ x, atI l (p + 3 : Nat) = x := ⟨_, rfl⟩
 obtain ⟨b0, hb0⟩ : ∃ b, ((strOfNums l).get! p).toNat = b := ⟨_, rfl⟩
 obtain ⟨b1, hb1⟩ : ∃ b, ((strOfNums l).get! (p + 1)).toNat = b := ⟨_, rfl⟩
 obtain ⟨b2, hb2⟩ : ∃ b, ((strOfNums l).get! (p + 2)).toNat = b := ⟨_, rfl⟩
 obtain ⟨b3, hb3⟩ : ∃ b, ((strOfNums l).get! (p + 3)).toNat = b := ⟨_, rfl⟩
 rw [hx] at x0 x1 e0
 rw [hy] at e1
 rw [hz] at e2
 rw [hv] at e3
 rw [hb0] at e0
 rw [hb1] at e1
 rw [hb2] at e2
 rw [hb3] at e3
 simp only [hx, hy, hz, hv, hb0, hb1, hb2, hb3]
 clear hx hy hz hv hb0 hb1 hb2 hb3
 by_cases h0 : b0 < 128
 ·rw [if_pos h0, if_pos (by omega)]
  simp [e0]
 rw [if_neg h0, if_neg (show ¬ x < 128 by omega)]
 by_cases h1 : x / 32 = 6 ∧ y / 64 = 2
 ·have g1 := e1 h1.2
  rw [if_pos h1, if_pos (by simp; omega)]
  by_cases h2 : x % 32 * 64 + y % 64 ≥ 128
  ·rw [if_pos h2, if_pos (by omega)]
   simp
   omega
  ·rw [if_neg h2, if_neg (by omega)]
   simp [Utf8.runeError]
 rw [if_neg h1, if_neg (by simp; omega)]
 by_cases h3 : x / 16 = 14 ∧ y / 64 = 2 ∧ z / 64 = 2
 ·have g1 := e1 h3.2.1
  have g2 := e2 h3.2.2
  rw [if_pos h3, if_pos (by simp; omega)]
  by_cases h4 : x % 16 * 4096 + y % 64 * 64 + z % 64 ≥ 2048 ∧ ¬ (55296 ≤ x % 16 * 4096 + y % 64 * 64 + z % 64 ∧ x % 16 * 4096 + y % 64 * 64 + z % 64 < 57344)
  ·rw [if_pos h4, if_pos (by simp [Utf8.valid]; omega)]
   simp
   omega
  ·rw [if_neg h4, if_neg (by simp [Utf8.valid]; omega)]
   simp [Utf8.runeError]
 rw [if_neg h3, if_neg (by simp; omega)]
 by_cases h5 : x / 8 = 30 ∧ y / 64 = 2 ∧ z / 64 = 2 ∧ v / 64 = 2
 ·have g1 := e1 h5.2.1
  have g2 := e2 h5.2.2.1
  have g3 := e3 h5.2.2.2
  rw [if_pos h5, if_pos (by simp; omega)]
  by_cases h6 : x % 8 * 262144 + y % 64 * 4096 + z % 64 * 64 + v % 64 ≥ 65536 ∧ x % 8 * 262144 + y % 64 * 4096 + z % 64 * 64 + v % 64 ≤ 1114111
  ·rw [if_pos h6, if_pos (by simp [Utf8.valid]; omega)]
   simp
   omega
  ·rw [if_neg h6, if_neg (by simp [Utf8.valid]; omega)]
   simp [Utf8.runeError]
 rw [if_neg h5, if_neg (by simp; omega)]
 simp [Utf8.runeError]
def isOne (x : Int) : Prop := 0 ≤ x ∧ x ≤ 127
def isTwo (x y : Int) : Prop := 194 ≤ x ∧ x ≤ 223 ∧ 128 ≤ y ∧ y ≤ 191
def isThree (x y z : Int) : Prop := 128 ≤ z ∧ z ≤ 191 ∧ ((x = 224 ∧ 160 ≤ y ∧ y ≤ 191) ∨ (225 ≤ x ∧ x ≤ 236 ∧ 128 ≤ y ∧ y ≤ 191) ∨ (x = 237 ∧ 128 ≤ y ∧ y ≤ 159) ∨ (238 ≤ x ∧ x ≤ 239 ∧ 128 ≤ y ∧ y ≤ 191))
def isFour (x y z w : Int) : Prop := 128 ≤ z ∧ z ≤ 191 ∧ 128 ≤ w ∧ w ≤ 191 ∧ ((x = 240 ∧ 144 ≤ y ∧ y ≤ 191) ∨ (241 ≤ x ∧ x ≤ 243 ∧ 128 ≤ y ∧ y ≤ 191) ∨ (x = 244 ∧ 128 ≤ y ∧ y ≤ 143))
theorem longOf_cases (x y z w : Int) : (isOne x ∧ longOf x y z w = 1) ∨ (isTwo x y ∧ longOf x y z w = 2) ∨ (isThree x y z ∧ longOf x y z w = 3) ∨ (isFour x y z w ∧ longOf x y z w = 4) ∨
  (¬ isOne x ∧ ¬ isTwo x y ∧ ¬ isThree x y z ∧ ¬ isFour x y z w ∧ longOf x y z w = 0) := by
 have e1 : (inB x 0 127 = true) ↔ isOne x := by simp [inB, isOne]
 have e2 : (inB x 194 223 && inB y 128 191) = true ↔ isTwo x y := by simp [inB, isTwo]; omega
 have e3 : (inB z 128 191 && three x y) = true ↔ isThree x y z := by simp [inB, isThree, three]; omega
 have e4 : (inB z 128 191 && inB w 128 191 && four x y) = true ↔ isFour x y z w := by simp [inB, isFour, four]; omega
 unfold longOf
 by_cases h1 : isOne x
 ·exact .inl ⟨h1, by rw [if_pos (e1.2 h1)]⟩
 rw [if_neg (fun h => h1 (e1.1 h))]
 by_cases h2 : isTwo x y
 ·exact .inr (.inl ⟨h2, by rw [if_pos (e2.2 h2)]⟩)
 rw [if_neg (fun h => h2 (e2.1 h))]
 by_cases h3 : isThree x y z
 ·exact .inr (.inr (.inl ⟨h3, by rw [if_pos (e3.2 h3)]⟩))
 rw [if_neg (fun h => h3 (e3.1 h))]
 by_cases h4 : isFour x y z w
 ·exact .inr (.inr (.inr (.inl ⟨h4, by rw [if_pos (e4.2 h4)]⟩)))
 rw [if_neg (fun h => h4 (e4.1 h))]
 exact .inr (.inr (.inr (.inr ⟨h1, h2, h3, h4, rfl⟩)))
/-- The rune of an encoding. -/
def runeV (x y z w : Int) : Int := if longOf x y z w = 1 then x else if longOf x y z w = 2 then x % 32 * 64 + y % 64 else if longOf x y z w = 3 then x % 16 * 4096 + y % 64 * 64 + z % 64 else x % 8 * 262144 + y % 64 * 4096 + z % 64 * 64 + w % 64
theorem decV_long (x y z w : Int) (hx0 : 0 ≤ x) (hx1 : x ≤ 255) (hy : y ≤ 255) (hz : z ≤ 255) (hw : w ≤ 255) (hy0 : -1 ≤ y) (hz0 : -1 ≤ z) (hw0 : -1 ≤ w) :
  (longOf x y z w = 0 → decV x y z w = (65533, 1) ∧ ¬ (x = 239 ∧ y = 191 ∧ z = 189)) ∧
  (longOf x y z w ≠ 0 → decV x y z w = (runeV x y z w, (longOf x y z w).toNat) ∧ (runeV x y z w = 65533 ↔ (x = 239 ∧ y = 191 ∧ z = 189))) := by
 rcases longOf_cases x y z w with ⟨h, e⟩ | ⟨h, e⟩ | ⟨h, e⟩ | ⟨h, e⟩ | ⟨h1, h2, h3, h4, e⟩
 ·refine ⟨fun h0 => by omega, fun _ => ?_⟩
  unfold isOne at h
  have hr : runeV x y z w = x := by simp [runeV, e]
  rw [hr, e]
  unfold decV
  rw [if_pos (by omega)]
  exact ⟨rfl, by omega⟩
 ·refine ⟨fun h0 => by omega, fun _ => ?_⟩
  unfold isTwo at h
  have hr : runeV x y z w = x % 32 * 64 + y % 64 := by simp [runeV, e]
  rw [hr, e]
  unfold decV
  rw [if_neg (by omega), if_pos (by omega), if_pos (by omega)]
  exact ⟨rfl, by omega⟩
 ·refine ⟨fun h0 => by omega, fun _ => ?_⟩
  unfold isThree at h
  have hr : runeV x y z w = x % 16 * 4096 + y % 64 * 64 + z % 64 := by simp [runeV, e]
  rw [hr, e]
  unfold decV
  rw [if_neg (by omega), if_neg (by omega), if_pos (by omega), if_pos (by omega)]
  exact ⟨rfl, by omega⟩
 ·refine ⟨fun h0 => by omega, fun _ => ?_⟩
  unfold isFour at h
  have hr : runeV x y z w = x % 8 * 262144 + y % 64 * 4096 + z % 64 * 64 + w % 64 := by simp [runeV, e]
  rw [hr, e]
  unfold decV
  rw [if_neg (by omega), if_neg (by omega), if_neg (by omega), if_pos (by omega), if_pos (by omega)]
  exact ⟨rfl, by omega⟩
 ·refine ⟨fun _ => ?_, fun h0 => absurd e h0⟩
  unfold isOne at h1
  unfold isTwo at h2
  unfold isThree at h3
  unfold isFour at h4
  refine ⟨?_, by omega⟩
  unfold decV
  rw [if_neg (by omega)]
  by_cases g1 : x / 32 = 6 ∧ y / 64 = 2
  ·rw [if_pos g1, if_neg (by omega)]
  rw [if_neg g1]
  by_cases g2 : x / 16 = 14 ∧ y / 64 = 2 ∧ z / 64 = 2
  ·rw [if_pos g2, if_neg (by omega)]
  rw [if_neg g2]
  by_cases g3 : x / 8 = 30 ∧ y / 64 = 2 ∧ z / 64 = 2 ∧ w / 64 = 2
  ·rw [if_pos g3, if_neg (by omega)]
  rw [if_neg g3]
theorem strOfNums_drop (l : List Int) (p : Nat) : (strOfNums l).extract p (strOfNums l).size = strOfNums (l.drop p) := by
 apply ByteArray.ext
 rw [ByteArray.data_extract]
 apply Array.ext'
 rw [Array.toList_extract, strOfNums_size]
 simp only [strOfNums, List.extract_eq_take_drop]
 rw [List.map_drop]
 apply List.take_of_length_le
 simp
theorem atI_drop (l : List Int) (p q : Nat) : atI (l.drop p) (q : Int) = atI l (p + q : Nat) := by
 unfold atI rd
 simp only [List.length_drop, Int.toNat_natCast, List.getD_eq_getElem?_getD, List.getElem?_drop]
 by_cases h : p + q < l.length
 ·rw [if_neg (by omega), if_neg (by omega)]
 ·rw [if_pos (by omega), if_pos (by omega)]
theorem encode_size (r : Int) (h0 : 0 ≤ r) (h1 : r < 55296 ∨ (57344 ≤ r ∧ r ≤ 1114111)) : (Utf8.encode r).size = if r < 128 then 1 else if r < 2048 then 2 else if r < 65536 then 3 else 4 := by
 have hv : Utf8.valid r = true := by simp [Utf8.valid]; omega
 unfold Utf8.encode
 simp only [hv, if_true]
 by_cases g1 : r < 128
 ·rw [if_pos g1, if_pos (by omega)]; rfl
 rw [if_neg g1, if_neg (by omega)]
 by_cases g2 : r < 2048
 ·rw [if_pos g2, if_pos (by omega)]; rfl
 rw [if_neg g2, if_neg (by omega)]
 by_cases g3 : r < 65536
 ·rw [if_pos g3, if_pos (by omega)]; rfl
 rw [if_neg g3, if_neg (by omega)]; rfl
theorem runeV_size (x y z w : Int) (hx0 : 0 ≤ x) (hx1 : x ≤ 255) (hy : y ≤ 255) (hz : z ≤ 255) (hw : w ≤ 255) (h : longOf x y z w ≠ 0) : ((Utf8.encode (runeV x y z w)).size : Int) = longOf x y z w := by
 rcases longOf_cases x y z w with ⟨h, e⟩ | ⟨h, e⟩ | ⟨h, e⟩ | ⟨h, e⟩ | ⟨h1, h2, h3, h4, e⟩
 ·have hr : runeV x y z w = x := by simp [runeV, e]
  unfold isOne at h
  rw [hr, e, encode_size _ (by omega) (by omega), if_pos (by omega)]; rfl
 ·have hr : runeV x y z w = x % 32 * 64 + y % 64 := by simp [runeV, e]
  unfold isTwo at h
  rw [hr, e, encode_size _ (by omega) (by omega), if_neg (by omega), if_pos (by omega)]; rfl
 ·have hr : runeV x y z w = x % 16 * 4096 + y % 64 * 64 + z % 64 := by simp [runeV, e]
  unfold isThree at h
  rw [hr, e, encode_size _ (by omega) (by omega), if_neg (by omega), if_neg (by omega), if_pos (by omega)]; rfl
 ·have hr : runeV x y z w = x % 8 * 262144 + y % 64 * 4096 + z % 64 * 64 + w % 64 := by simp [runeV, e]
  unfold isFour at h
  rw [hr, e, encode_size _ (by omega) (by omega), if_neg (by omega), if_neg (by omega), if_neg (by omega)]; rfl
 ·exact absurd e h
theorem atI_range {l : List Int} (hb : Bytes l) (p : Nat) : -1 ≤ atI l (p : Int) ∧ atI l (p : Int) ≤ 255 := by
 by_cases h : p < l.length
 ·obtain ⟨e, h0, h1⟩ := atI_in hb p h
  rw [e]; omega
 ·rw [atI_out l _ (by omega)]; omega
theorem hasFD_int {l : List Int} (hb : Bytes l) : hasFD (strOfNums l) = true ↔ (atI l (0 : Nat) = 239 ∧ atI l (1 : Nat) = 191 ∧ atI l (2 : Nat) = 189) := by
 match l, hb with
 | [], _ => simp [hasFD, strOfNums_size, atI]
 | [a], _ => simp [hasFD, strOfNums_size, atI]
 | [a, b], _ => simp [hasFD, strOfNums_size, atI]
 | a :: b :: c :: r, hb =>
  have ha := hb a (by simp)
  have hb' := hb b (by simp)
  have hc := hb c (by simp)
  have e0 := (atI_in hb 0 (by simp)).1
  have e1 := (atI_in hb 1 (by simp)).1
  have e2 := (atI_in hb 2 (by simp)).1
  rw [e0, e1, e2]
  have hx : ((strOfNums (a :: b :: c :: r)).extract 0 3).toList = [UInt8.ofNat a.toNat, UInt8.ofNat b.toNat, UInt8.ofNat c.toNat] := by
   have he : (strOfNums (a :: b :: c :: r)).extract 0 3 = strOfNums [a, b, c] := by
    apply ByteArray.ext
    rw [ByteArray.data_extract]
    apply Array.ext'
    rw [Array.toList_extract]
    simp [strOfNums]
   rw [he, Lib.strOfNums_toList]
   rfl
  have u : ∀ (n : Int) (k : Nat), 0 ≤ n → n ≤ 255 → k ≤ 255 → ((UInt8.ofNat n.toNat = UInt8.ofNat k) ↔ n = (k : Int)) := by
   intro n k h0 h1 h2
   rw [← UInt8.toNat_inj]
   simp
   omega
  unfold hasFD
  rw [hx, strOfNums_size]
  have u0 := u a 239 ha.1 ha.2 (by decide)
  have u1 := u b 191 hb'.1 hb'.2 (by decide)
  have u2 := u c 189 hc.1 hc.2 (by decide)
  simp only [beq_iff_eq, Bool.and_eq_true, decide_eq_true_eq, List.cons.injEq, and_true]
  have v0 : (UInt8.ofNat a.toNat = (239 : UInt8)) ↔ a = 239 := u0
  have v1 : (UInt8.ofNat b.toNat = (191 : UInt8)) ↔ b = 191 := u1
  have v2 : (UInt8.ofNat c.toNat = (189 : UInt8)) ↔ c = 189 := u2
  rw [v0, v1, v2]
  simp
/-- The step at a place, by the table. -/
def ofL (l : List Int) (p : Nat) : Int × Int × Bool :=
 if longAt l (p : Int) = 0 then (65533, 1, false) else (runeV (atI l (p : Int)) (atI l (p + 1 : Nat)) (atI l (p + 2 : Nat)) (atI l (p + 3 : Nat)), longAt l (p : Int), true)
theorem longAt_nat (l : List Int) (p : Nat) (hp : p ≤ 4611686018427387904) : longAt l (p : Int) = longOf (atI l (p : Int)) (atI l (p + 1 : Nat)) (atI l (p + 2 : Nat)) (atI l (p + 3 : Nat)) := by
 unfold longAt
 rw [wrap64_small (by omega) (by omega), wrap64_small (by omega) (by omega), wrap64_small (by omega) (by omega)]
 rfl
theorem first_of {l : List Int} (hb : Bytes l) (p : Nat) (hp : p < l.length) (hl : l.length ≤ 4611686018427387904) :
  firstOf ((strOfNums l).extract p (strOfNums l).size) = ofL l p ∧ ((Utf8.decode (strOfNums l) p).2 : Int) = (ofL l p).2.1 := by
 have d1 := decode_int hb p hp
 have d2 := decode_int (hb.drop p) 0 (by simp; omega)
 have r0 := atI_range hb p
 have r1 := atI_range hb (p + 1)
 have r2 := atI_range hb (p + 2)
 have r3 := atI_range hb (p + 3)
 have hx0 : 0 ≤ atI l (p : Int) := by rw [(atI_in hb p hp).1]; exact (atI_in hb p hp).2.1
 have q0 := atI_drop l p 0
 have q1 := atI_drop l p 1
 have q2 := atI_drop l p 2
 have q3 := atI_drop l p 3
 have hfd := hasFD_int (hb.drop p)
 simp only [Nat.zero_add, Nat.add_zero] at d2 q0 q1 q2 q3
 rw [q0, q1, q2, q3] at d2
 rw [q0, q1, q2] at hfd
 have hlong := longAt_nat l p (by omega)
 rw [strOfNums_drop]
 unfold ofL firstOf
 rw [hlong, strOfNums_size, if_neg (by simp; omega)]
 have hD := decV_long (atI l (p : Int)) (atI l (p + 1 : Nat)) (atI l (p + 2 : Nat)) (atI l (p + 3 : Nat)) hx0 r0.2 r1.2 r2.2 r3.2 r1.1 r2.1 r3.1
 have hS := runeV_size (atI l (p : Int)) (atI l (p + 1 : Nat)) (atI l (p + 2 : Nat)) (atI l (p + 3 : Nat)) hx0 r0.2 r1.2 r2.2 r3.2
 obtain ⟨x, hx⟩ : ∃ x, atI l (p : Int) = x := ⟨_, rfl⟩
 obtain ⟨y, hy⟩ : ∃ x, atI l (p + 1 : Nat) = x := ⟨_, rfl⟩
 obtain ⟨z, hz⟩ : ∃ x, atI l (p + 2 : Nat) = x := ⟨_, rfl⟩
 obtain ⟨v, hv⟩ : ∃ x, atI l (p + 3 : Nat) = x := ⟨_, rfl⟩
 simp only [hx, hy, hz, hv] at d1 d2 hfd hD hS ⊢
 clear q0 q1 q2 q3 hx hy hz hv hlong r0 r1 r2 r3 hx0
 by_cases h0 : longOf x y z v = 0
 ·obtain ⟨hd, hn⟩ := hD.1 h0
  rw [hd] at d1 d2
  simp only [Prod.mk.injEq] at d1 d2
  have e1 : (Utf8.decode (strOfNums (l.drop p)) 0).1 = 65533 := by omega
  rw [if_pos h0, if_pos e1, if_neg (fun h => hn (hfd.1 h))]
  exact ⟨rfl, by rw [d1.2]; rfl⟩
 ·obtain ⟨hd, hr⟩ := hD.2 h0
  have hs := hS h0
  rw [hd] at d1 d2
  simp only [Prod.mk.injEq] at d1 d2
  have hpos : 0 ≤ longOf x y z v := by rw [← hs]; omega
  rw [if_neg h0]
  by_cases hr3 : runeV x y z v = 65533
  ·have e1 : (Utf8.decode (strOfNums (l.drop p)) 0).1 = 65533 := by omega
   rw [if_pos e1, if_pos (hfd.2 (hr.1 hr3)), hr3]
   have hl3 : longOf x y z v = 3 := by
    rw [hr3] at hs
    rw [← hs]
    rfl
   rw [hl3] at d1 ⊢
   exact ⟨rfl, by rw [d1.2]; rfl⟩
  ·have e1 : ¬ (Utf8.decode (strOfNums (l.drop p)) 0).1 = 65533 := by omega
   rw [if_neg e1, d2.1, hs]
   refine ⟨rfl, ?_⟩
   show ((Utf8.decode (strOfNums l) p).2 : Int) = longOf x y z v
   rw [d1.2]
   omega

end Go.Proofs.YtijbkiajhicooaaDoor.PW

namespace Go.Proofs.YtijbkiajhicooaaDoor.PW
open Go.RowKit Go.Proofs.YtijbkiajhicooaaDoorW.PrintWords Go.Proofs.YtijbkiajhicooaaDoorW.PrintLast Go.Proofs.YtijbkiajhicooaaDoorW.PrintMore
attribute [local go_sem] max2_int min2_int max_two min_two max_three min_three max_four min_four   -- for this text's walks alone
set_option linter.unusedVariables false
set_option linter.unusedSimpArgs false

def Ev {β : Type} (g : Nat → Option β) (v : β) : Prop := ∃ K, ∀ k, K ≤ k → g k = some v
theorem Ev.pure {β : Type} (v : β) : Ev (fun _ => some v) v := ⟨0, fun _ _ => rfl⟩
theorem Ev.of_eq {β : Type} {g : Nat → Option β} {v : β} (h : ∀ k, g k = some v) : Ev g v := ⟨0, fun k _ => h k⟩
theorem Ev.bind {α β : Type} {g : Nat → Option α} {h : Nat → α → Option β} {v : α} {u : β} (hg : Ev g v) (hh : Ev (fun k => h k v) u) : Ev (fun k => (g k).bind (h k)) u := by
 obtain ⟨K, hK⟩ := hg
 obtain ⟨M, hM⟩ := hh
 refine ⟨max K M, fun k hk => ?_⟩
 show (g k).bind (h k) = some u
 rw [hK k (by omega)]
 exact hM k (by omega)
theorem Ev.succ {β : Type} {g h : Nat → Option β} {v : β} (hh : Ev h v) (e : ∀ k, g (k + 1) = h k) : Ev g v := by
 obtain ⟨K, hK⟩ := hh
 refine ⟨K + 1, fun k hk => ?_⟩
 obtain ⟨m, rfl⟩ : ∃ m, k = m + 1 := ⟨k - 1, by omega⟩
 rw [e]
 exact hK m (by omega)
theorem Ev.congr {β : Type} {g h : Nat → Option β} {v : β} (hh : Ev h v) (e : ∀ k, g k = h k) : Ev g v := by
 obtain ⟨K, hK⟩ := hh
 exact ⟨K, fun k hk => by rw [e]; exact hK k hk⟩
theorem Ev.some {β : Type} {g : Nat → Option β} {v : β} (h : Ev g v) : ∃ k, g k = some v := by
 obtain ⟨K, hK⟩ := h
 exact ⟨K, hK K (Nat.le_refl _)⟩
/-- Does an encoding begin ahead of the place and end behind it? -/
def insideB (l : List Int) (p : Nat) : Bool :=
 (decide (1 ≤ p) && decide (longAt l ((p - 1 : Nat) : Int) > 1)) || (decide (2 ≤ p) && decide (longAt l ((p - 2 : Nat) : Int) > 2)) || (decide (3 ≤ p) && decide (longAt l ((p - 3 : Nat) : Int) > 3))
theorem inside_ev (l : List Int) (p : Nat) (hp : p ≤ 4611686018427387904) : Ev (fun k => galleyref02_Inside.f k l (p : Int)) (insideB l p) := by
 refine ⟨4, fun k hk => ?_⟩
 obtain ⟨m, rfl⟩ : ∃ m, k = m + 4 := ⟨k - 4, by omega⟩
 have w1 : wrap64 ((p : Int) - 1) = p - 1 := wrap64_small (by omega) (by omega)
 have w2 : wrap64 ((p : Int) - 2) = p - 2 := wrap64_small (by omega) (by omega)
 have w3 : wrap64 ((p : Int) - 3) = p - 3 := wrap64_small (by omega) (by omega)
 have s1 : wrap64 (1 + 1) = 2 := by unfold wrap64; omega
 have s2 : wrap64 (2 + 1) = 3 := by unfold wrap64; omega
 have s3 : wrap64 (3 + 1) = 4 := by unfold wrap64; omega
 have n1 : (1 ≤ p) → ((p - 1 : Nat) : Int) = (p : Int) - 1 := fun h => by omega
 have n2 : (2 ≤ p) → ((p - 2 : Nat) : Int) = (p : Int) - 2 := fun h => by omega
 have n3 : (3 ≤ p) → ((p - 3 : Nat) : Int) = (p : Int) - 3 := fun h => by omega
 have g1 : ((p : Int) - 1 ≥ 0) ↔ 1 ≤ p := by omega
 have g2 : ((p : Int) - 2 ≥ 0) ↔ 2 ≤ p := by omega
 have g3 : ((p : Int) - 3 ≥ 0) ↔ 3 ≤ p := by omega
 unfold galleyref02_Inside.f insideB
 simp only [galleyref02_Inside.l0, galleyref02_Long.f, Option.bind_some, w1, w2, w3, s1, s2, s3, g1, g2, g3]
 by_cases h1 : 1 ≤ p
 ·rw [n1 h1]
  by_cases h2 : 2 ≤ p
  ·rw [n2 h2]
   by_cases h3 : 3 ≤ p
   ·rw [n3 h3]
    simp only [h1, h2, h3]
    by_cases a1 : longAt l ((p : Int) - 1) > 1
    ·simp [a1]
    ·by_cases a2 : longAt l ((p : Int) - 2) > 2
     ·simp [a1, a2]
     ·by_cases a3 : longAt l ((p : Int) - 3) > 3
      ·simp [a1, a2, a3]
      ·simp [a1, a2, a3]
   ·simp only [h1, h2, h3]
    by_cases a1 : longAt l ((p : Int) - 1) > 1
    ·simp [a1]
    ·by_cases a2 : longAt l ((p : Int) - 2) > 2
     ·simp [a1, a2]
     ·simp [a1, a2]
  ·have h3 : ¬ 3 ≤ p := by omega
   simp only [h1, h2, h3]
   by_cases a1 : longAt l ((p : Int) - 1) > 1
   ·simp [a1]
   ·simp [a1]
 ·have h2 : ¬ 2 ≤ p := by omega
  have h3 : ¬ 3 ≤ p := by omega
  simp [h1, h2, h3]
theorem edges_ev (l : List Int) (hl : l.length ≤ 4398046511104) : ∀ (n p : Nat) (out : List Int), p + n = l.length + 1 → out.length ≤ p → Ev (fun k => galleyref02_Edges.l0 k l out (p : Int)) (out ++ ((List.range' p n).filter fun q => !insideB l q).map (Int.ofNat ·)) := by
 intro n
 induction n with
 | zero =>
  intro p out hp ho
  refine Ev.succ (h := fun _ => some out) ?_ (fun k => ?_)
  ·simpa using Ev.pure out
  ·simp only [galleyref02_Edges.l0]
   rw [if_neg (by omega)]
 | succ n ih =>
  intro p out hp ho
  have hw : wrap64 ((p : Int) + 1) = ((p + 1 : Nat) : Int) := by rw [wrap64_small (by omega) (by omega)]; omega
  refine Ev.succ (h := fun k => (galleyref02_Inside.f k l (p : Int)).bind fun t => if t = true then galleyref02_Edges.l0 k l out ((p + 1 : Nat) : Int) else galleyref02_Edges.l0 k l (out ++ [(p : Int)]) ((p + 1 : Nat) : Int)) ?_ (fun k => ?_)
  ·refine Ev.bind (inside_ev l p (by omega)) ?_
   rw [List.range'_succ, List.filter_cons]
   cases hi : insideB l p with
   | true => simpa using ih (p + 1) out (by omega) (by omega)
   | false => simpa using ih (p + 1) (out ++ [(p : Int)]) (by omega) (by simp; omega)
  ·simp only [galleyref02_Edges.l0]
   rw [if_pos (by omega), hw]
   congr 1
   funext t
   rw [if_pos (show out.length < 17592186044416 by omega)]

end Go.Proofs.YtijbkiajhicooaaDoor.PW

namespace Go.Proofs.YtijbkiajhicooaaDoor.PW
open Go.RowKit Go.Proofs.YtijbkiajhicooaaDoorW.PrintWords Go.Proofs.YtijbkiajhicooaaDoorW.PrintLast Go.Proofs.YtijbkiajhicooaaDoorW.PrintMore
attribute [local go_sem] max2_int min2_int max_two min_two max_three min_three max_four min_four   -- for this text's walks alone
set_option linter.unusedVariables false
set_option linter.unusedSimpArgs false

/-- How far the step at a place goes. -/
def widL (l : List Int) (p : Nat) : Nat := if longAt l (p : Int) = 0 then 1 else (longAt l (p : Int)).toNat
theorem longAt_facts {l : List Int} (hb : Bytes l) (p : Nat) (hl : l.length ≤ 4398046511104) (hp : p ≤ l.length) :
  0 ≤ longAt l (p : Int) ∧ longAt l (p : Int) ≤ 4 ∧ (0 < longAt l (p : Int) → p + (longAt l (p : Int)).toNat ≤ l.length) ∧
  (∀ j : Nat, 1 ≤ j → (j : Int) < longAt l (p : Int) → 128 ≤ atI l (p + j : Nat) ∧ atI l (p + j : Nat) ≤ 191) ∧ (128 ≤ atI l (p : Int) ∧ atI l (p : Int) ≤ 191 → longAt l (p : Int) = 0) := by
 have hlong := longAt_nat l p (by omega)
 have r1 : 0 ≤ atI l (p + 1 : Nat) → p + 1 < l.length := fun h => by
  by_cases g : p + 1 < l.length
  ·exact g
  ·rw [atI_out l _ (by omega)] at h; omega
 have r2 : 0 ≤ atI l (p + 2 : Nat) → p + 2 < l.length := fun h => by
  by_cases g : p + 2 < l.length
  ·exact g
  ·rw [atI_out l _ (by omega)] at h; omega
 have r3 : 0 ≤ atI l (p + 3 : Nat) → p + 3 < l.length := fun h => by
  by_cases g : p + 3 < l.length
  ·exact g
  ·rw [atI_out l _ (by omega)] at h; omega
 have r0 : 0 ≤ atI l (p : Int) → p < l.length := fun h => by
  by_cases g : p < l.length
  ·exact g
  ·rw [atI_out l _ (by omega)] at h; omega
 have sp : ∀ j : Nat, 1 ≤ j → (j : Int) < 4 → j = 1 ∨ j = 2 ∨ j = 3 := fun j h1 h2 => by omega
 rw [hlong]
 rcases longOf_cases (atI l (p : Int)) (atI l (p + 1 : Nat)) (atI l (p + 2 : Nat)) (atI l (p + 3 : Nat)) with ⟨h, e⟩ | ⟨h, e⟩ | ⟨h, e⟩ | ⟨h, e⟩ | ⟨h1, h2, h3, h4, e⟩
 ·unfold isOne at h
  rw [e]
  exact ⟨by omega, by omega, fun _ => by have := r0 (by omega); simp; omega, fun j h1 h2 => by omega, fun g => by omega⟩
 ·unfold isTwo at h
  rw [e]
  refine ⟨by omega, by omega, fun _ => by have := r1 (by omega); simp; omega, fun j h1 h2 => ?_, fun g => by omega⟩
  obtain rfl : j = 1 := by omega
  omega
 ·unfold isThree at h
  rw [e]
  refine ⟨by omega, by omega, fun _ => by have := r2 (by omega); simp; omega, fun j h1 h2 => ?_, fun g => by omega⟩
  rcases (show j = 1 ∨ j = 2 by omega) with rfl | rfl
  ·omega
  ·omega
 ·unfold isFour at h
  rw [e]
  refine ⟨by omega, by omega, fun _ => by have := r3 (by omega); simp; omega, fun j h1 h2 => ?_, fun g => by omega⟩
  rcases sp j h1 h2 with rfl | rfl | rfl
  ·omega
  ·omega
  ·omega
 ·rw [e]
  exact ⟨by omega, by omega, fun h => by omega, fun j h1 h2 => by omega, fun _ => rfl⟩
theorem widL_pos {l : List Int} (hb : Bytes l) (p : Nat) (hl : l.length ≤ 4398046511104) (hp : p < l.length) : 1 ≤ widL l p ∧ widL l p ≤ 4 ∧ p + widL l p ≤ l.length := by
 obtain ⟨h0, h1, h2, _, _⟩ := longAt_facts hb p hl (by omega)
 unfold widL
 by_cases h : longAt l (p : Int) = 0
 ·rw [if_pos h]; omega
 ·rw [if_neg h]
  have := h2 (by omega)
  omega
/-- A place where a step begins: no encoding reaches over it. -/
def Vis (l : List Int) (p : Nat) : Prop := ∀ j : Nat, 1 ≤ j → j ≤ 3 → j ≤ p → longAt l ((p - j : Nat) : Int) ≤ j
theorem inside_vis {l : List Int} {p : Nat} (h : Vis l p) : insideB l p = false := by
 unfold insideB
 have h1 := h 1 (by omega) (by omega)
 have h2 := h 2 (by omega) (by omega)
 have h3 := h 3 (by omega) (by omega)
 by_cases g1 : 1 ≤ p
 ·have := h1 g1
  by_cases g2 : 2 ≤ p
  ·have := h2 g2
   by_cases g3 : 3 ≤ p
   ·have := h3 g3
    simp; omega
   ·simp; omega
  ·simp; omega
 ·simp; omega
theorem vis_next {l : List Int} (hb : Bytes l) {p : Nat} (hl : l.length ≤ 4398046511104) (hp : p < l.length) (h : Vis l p) : Vis l (p + widL l p) := by
 intro j j1 j3 jp
 obtain ⟨h0, h4, h2, hc, _⟩ := longAt_facts hb p hl (by omega)
 obtain ⟨w1, w4, wl⟩ := widL_pos hb p hl hp
 by_cases c1 : j = widL l p
 ·rw [show p + widL l p - j = p by omega]
  rw [c1]
  unfold widL
  by_cases g : longAt l (p : Int) = 0
  ·rw [if_pos g]; omega
  ·rw [if_neg g]; omega
 ·by_cases c2 : j < widL l p
  ·obtain ⟨i, hi⟩ : ∃ i, widL l p - j = i := ⟨_, rfl⟩
   have hlt : (i : Int) < longAt l (p : Int) := by
    unfold widL at hi c2
    by_cases g : longAt l (p : Int) = 0
    ·rw [if_pos g] at c2; omega
    ·rw [if_neg g] at hi; omega
   have hcc := hc i (by omega) hlt
   have hz := (longAt_facts hb (p + i) hl (by omega)).2.2.2.2 hcc
   rw [show p + widL l p - j = p + i by omega, hz]
   omega
  ·have := h (j - widL l p) (by omega) (by omega) (by omega)
   rw [show p + widL l p - j = p - (j - widL l p) by omega]
   omega
theorem vis_zero (l : List Int) : Vis l 0 := fun j h1 _ h3 => by omega
theorem inside_step {l : List Int} (hb : Bytes l) {p : Nat} (hl : l.length ≤ 4398046511104) (hp : p < l.length) (j : Nat) (h1 : 1 ≤ j) (h2 : j < widL l p) : insideB l (p + j) = true := by
 obtain ⟨h0, h4, _, _, _⟩ := longAt_facts hb p hl (by omega)
 obtain ⟨w1, w4, wl⟩ := widL_pos hb p hl hp
 have hlt : (j : Int) < longAt l (p : Int) := by
  unfold widL at h2
  by_cases g : longAt l (p : Int) = 0
  ·rw [if_pos g] at h2; omega
  ·rw [if_neg g] at h2; omega
 unfold insideB
 rcases (show j = 1 ∨ j = 2 ∨ j = 3 by omega) with rfl | rfl | rfl
 ·rw [show p + 1 - 1 = p by omega]
  simp; omega
 ·rw [show p + 2 - 2 = p by omega]
  simp; omega
 ·rw [show p + 3 - 3 = p by omega]
  simp; omega
/-- The places where steps begin, from an edge on, and the end. -/
theorem edges_from {l : List Int} (hb : Bytes l) (hl : l.length ≤ 4398046511104) : ∀ (n p : Nat), l.length - p = n → p ≤ l.length → Vis l p →
  ((List.range' p (l.length + 1 - p)).filter fun q => !insideB l q).map (Int.ofNat ·) = (stepsFrom (strOfNums l) p).map (·.1) ++ [(l.length : Int)] := by
 intro n
 induction n using Nat.strongRecOn with
 | _ n ih =>
  intro p hn hp hv
  by_cases hlt : p < l.length
  ·obtain ⟨w1, w4, wl⟩ := widL_pos hb p hl hlt
   have hd := (first_of hb p hlt (by omega)).2
   have hw : (Utf8.decode (strOfNums l) p).2 = widL l p := by
    have : (ofL l p).2.1 = (widL l p : Int) := by
     unfold ofL widL
     by_cases g : longAt l (p : Int) = 0
     ·rw [if_pos g, if_pos g]; rfl
     ·rw [if_neg g, if_neg g]
      have := (longAt_facts hb p hl (by omega)).1
      show longAt l (p : Int) = _
      omega
    omega
   rw [stepsFrom_cons _ _ (by rw [strOfNums_size]; exact hlt), hw]
   have hr : List.range' p (l.length + 1 - p) = List.range' p (widL l p) ++ List.range' (p + widL l p) (l.length + 1 - (p + widL l p)) := by
    rw [List.range'_append_1]
    congr 1
    omega
   have hf : (List.range' p (widL l p)).filter (fun q => !insideB l q) = [p] := by
    obtain ⟨m, hm⟩ : ∃ m, widL l p = m + 1 := ⟨widL l p - 1, by omega⟩
    rw [hm, List.range'_succ, List.filter_cons, inside_vis hv]
    simp only [Bool.not_false, if_true, List.cons.injEq, true_and]
    rw [List.filter_eq_nil_iff]
    intro q hq
    rw [List.mem_range'_1] at hq
    have := inside_step hb hl hlt (q - p) (by omega) (by omega)
    rw [show p + (q - p) = q by omega] at this
    simp [this]
   rw [hr, List.filter_append, List.map_append, hf, ih (l.length - (p + widL l p)) (by omega) (p + widL l p) rfl (by omega) (vis_next hb hl hlt hv)]
   rfl
  ·obtain rfl : p = l.length := by omega
   rw [stepsFrom_nil _ _ (by rw [strOfNums_size]; exact hlt), show l.length + 1 - l.length = 1 by omega]
   simp [List.range', inside_vis hv]

end Go.Proofs.YtijbkiajhicooaaDoor.PW

namespace Go.Proofs.YtijbkiajhicooaaDoor.PW
open Go.RowKit Go.Proofs.YtijbkiajhicooaaDoorW.PrintWords Go.Proofs.YtijbkiajhicooaaDoorW.PrintLast Go.Proofs.YtijbkiajhicooaaDoorW.PrintMore
attribute [local go_sem] max2_int min2_int max_two min_two max_three min_three max_four min_four   -- for this text's walks alone
set_option linter.unusedVariables false
set_option linter.unusedSimpArgs false

theorem wrap32_small {n : Int} (h0 : -2147483648 ≤ n) (h1 : n ≤ 2147483647) : wrap32 n = n := by unfold wrap32; omega
theorem rd_atI {l : List Int} (hb : Bytes l) (p : Nat) (h : p < l.length) : rd l (p : Int) = atI l (p : Int) ∧ 0 ≤ atI l (p : Int) ∧ atI l (p : Int) ≤ 255 := by
 obtain ⟨e, h0, h1⟩ := atI_in hb p h
 rw [e]
 exact ⟨by unfold rd; simp, h0, h1⟩
theorem tmod_nn (a b : Int) (h : 0 ≤ a) : Int.tmod a b = a % b := Int.tmod_eq_emod_of_nonneg h
theorem of_l0_step {l : List Int} (hb : Bytes l) (hl : l.length ≤ 4398046511104) (m p i : Nat) (n r : Int) (hi : (i : Int) < n) (hin : p + i < l.length) (h4 : i ≤ 4) (r0 : 0 ≤ r) (r1 : r ≤ 2097152) :
  galleyref02_Of.l0 (m + 1) l (p : Int) n r (i : Int) = galleyref02_Of.l0 m l (p : Int) n (r * 64 + atI l (p + i : Nat) % 64) ((i + 1 : Nat) : Int) := by
 obtain ⟨e, y0, y1⟩ := rd_atI hb (p + i) hin
 have e1 : wrap64 ((p : Int) + (i : Int)) = ((p + i : Nat) : Int) := by rw [wrap64_small (by omega) (by omega)]; omega
 have e2 : wrap64 ((i : Int) + 1) = ((i + 1 : Nat) : Int) := by rw [wrap64_small (by omega) (by omega)]; omega
 have e3 : wrap64 (rd l ((p + i : Nat) : Int)) = atI l (p + i : Nat) := by rw [e, wrap64_small (by omega) (by omega)]
 have e4 : wrap64 (r * 64) = r * 64 := wrap64_small (by omega) (by omega)
 have e5 : wrap64 (r * 64 + atI l (p + i : Nat) % 64) = r * 64 + atI l (p + i : Nat) % 64 := wrap64_small (by omega) (by omega)
 rw [galleyref02_Of.l0, if_pos hi, e1, if_pos (by omega), if_pos (by omega), e2, e3, e4, tmod_nn _ _ y0, e5]
theorem of_l0_end (l : List Int) (m : Nat) (p n r i : Int) (h : ¬ i < n) (r0 : 0 ≤ r) (r1 : r ≤ 2097152) : galleyref02_Of.l0 (m + 1) l p n r i = some (r, n, true) := by
 rw [galleyref02_Of.l0, if_neg h, wrap32_small (by omega) (by omega)]
theorem of_ev {l : List Int} (hb : Bytes l) (hl : l.length ≤ 4398046511104) (p : Nat) (hp : p < l.length) : Ev (fun k => galleyref02_Of.f k l (p : Int)) (ofL l p) := by
 refine ⟨6, fun k hk => ?_⟩
 obtain ⟨m, rfl⟩ : ∃ m, k = m + 6 := ⟨k - 6, by omega⟩
 obtain ⟨f0, f4, fl, fc, _⟩ := longAt_facts hb p hl (by omega)
 obtain ⟨e0, x0, x1⟩ := rd_atI hb p hp
 have hlong := longAt_nat l p (by omega)
 have wx : wrap64 (rd l (p : Int)) = atI l (p : Int) := by rw [e0, wrap64_small (by omega) (by omega)]
 have g0 : (0 : Int) ≤ (p : Int) := by omega
 have g1 : (p : Int) < (l.length : Int) := by omega
 have hy := atI_range hb (p + 1)
 have hz := atI_range hb (p + 2)
 show galleyref02_Of.f (m + 6) l (p : Int) = some _
 unfold galleyref02_Of.f ofL
 rw [show galleyref02_Long.f l (p : Int) = some (longAt l (p : Int)) from rfl, Option.bind_some, wx]
 rcases longOf_cases (atI l (p : Int)) (atI l (p + 1 : Nat)) (atI l (p + 2 : Nat)) (atI l (p + 3 : Nat)) with ⟨h, e⟩ | ⟨h, e⟩ | ⟨h, e⟩ | ⟨h, e⟩ | ⟨h1, h2, h3, h4, e⟩
 ·have hr : runeV (atI l (p : Int)) (atI l (p + 1 : Nat)) (atI l (p + 2 : Nat)) (atI l (p + 3 : Nat)) = atI l (p : Int) := by unfold runeV; rw [if_pos e]
  rw [hr, hlong, e, if_neg (by decide), if_pos g0, if_pos g1, if_neg (by decide), if_neg (by decide), if_neg (by decide), if_neg (by decide)]
  rw [galleyref02_Of.j0, of_l0_end _ _ _ _ _ _ (by decide) (by omega) (by omega)]
 ·have hr : runeV (atI l (p : Int)) (atI l (p + 1 : Nat)) (atI l (p + 2 : Nat)) (atI l (p + 3 : Nat)) = atI l (p : Int) % 32 * 64 + atI l (p + 1 : Nat) % 64 := by unfold runeV; rw [if_neg (by rw [e]; decide), if_pos e]
  have q1 : p + 2 ≤ l.length := by rw [hlong, e] at fl; exact fl (by decide)
  have y0 := (rd_atI hb (p + 1) (by omega)).2
  rw [hr, hlong, e, if_neg (by decide), if_pos g0, if_pos g1, if_pos rfl, tmod_nn _ _ x0, if_neg (by decide), galleyref02_Of.j0]
  refine (of_l0_step hb hl (m + 4) p 1 2 _ (by decide) (by omega) (by decide) (by omega) (by omega)).trans ?_
  exact of_l0_end _ _ _ _ _ _ (by decide) (by omega) (by omega)
 ·have hr : runeV (atI l (p : Int)) (atI l (p + 1 : Nat)) (atI l (p + 2 : Nat)) (atI l (p + 3 : Nat)) = atI l (p : Int) % 16 * 4096 + atI l (p + 1 : Nat) % 64 * 64 + atI l (p + 2 : Nat) % 64 := by unfold runeV; rw [if_neg (by rw [e]; decide), if_neg (by rw [e]; decide), if_pos e]
  have q1 : p + 3 ≤ l.length := by rw [hlong, e] at fl; exact fl (by decide)
  have y0 := (rd_atI hb (p + 1) (by omega)).2
  have z0 := (rd_atI hb (p + 2) (by omega)).2
  rw [hr, hlong, e, if_neg (by decide), if_pos g0, if_pos g1, if_neg (by decide), if_pos rfl, tmod_nn _ _ x0, if_neg (by decide), galleyref02_Of.j0]
  refine (of_l0_step hb hl (m + 4) p 1 3 _ (by decide) (by omega) (by decide) (by omega) (by omega)).trans ?_
  refine (of_l0_step hb hl (m + 3) p 2 3 _ (by decide) (by omega) (by decide) (by omega) (by omega)).trans ?_
  refine (of_l0_end _ _ _ _ _ _ (by decide) (by omega) (by omega)).trans ?_
  congr 2
  omega
 ·have hr : runeV (atI l (p : Int)) (atI l (p + 1 : Nat)) (atI l (p + 2 : Nat)) (atI l (p + 3 : Nat)) = atI l (p : Int) % 8 * 262144 + atI l (p + 1 : Nat) % 64 * 4096 + atI l (p + 2 : Nat) % 64 * 64 + atI l (p + 3 : Nat) % 64 := by unfold runeV; rw [if_neg (by rw [e]; decide), if_neg (by rw [e]; decide), if_neg (by rw [e]; decide)]
  have q1 : p + 4 ≤ l.length := by rw [hlong, e] at fl; exact fl (by decide)
  have y0 := (rd_atI hb (p + 1) (by omega)).2
  have z0 := (rd_atI hb (p + 2) (by omega)).2
  have v0 := (rd_atI hb (p + 3) (by omega)).2
  rw [hr, hlong, e, if_neg (by decide), if_pos g0, if_pos g1, if_neg (by decide), if_neg (by decide), if_pos rfl, tmod_nn _ _ x0, if_neg (by decide), galleyref02_Of.j0]
  refine (of_l0_step hb hl (m + 4) p 1 4 _ (by decide) (by omega) (by decide) (by omega) (by omega)).trans ?_
  refine (of_l0_step hb hl (m + 3) p 2 4 _ (by decide) (by omega) (by decide) (by omega) (by omega)).trans ?_
  refine (of_l0_step hb hl (m + 2) p 3 4 _ (by decide) (by omega) (by decide) (by omega) (by omega)).trans ?_
  refine (of_l0_end _ _ _ _ _ _ (by decide) (by omega) (by omega)).trans ?_
  congr 2
  omega
 ·rw [hlong, e, if_pos rfl, if_pos rfl]

end Go.Proofs.YtijbkiajhicooaaDoor.PW

namespace Go.Proofs.YtijbkiajhicooaaDoor.PW
open Go.RowKit Go.Proofs.YtijbkiajhicooaaDoorW.PrintWords Go.Proofs.YtijbkiajhicooaaDoorW.PrintLast Go.Proofs.YtijbkiajhicooaaDoorW.PrintMore
attribute [local go_sem] max2_int min2_int max_two min_two max_three min_three max_four min_four   -- for this text's walks alone
set_option linter.unusedVariables false
set_option linter.unusedSimpArgs false

theorem steps_mem {l : List Int} (hb : Bytes l) (hl : l.length ≤ 4398046511104) : ∀ (n p : Nat), l.length - p = n → ∀ x ∈ stepsFrom (strOfNums l) p, ∃ q : Nat, q < l.length ∧ x = ((q : Int), ofL l q) := by
 intro n
 induction n using Nat.strongRecOn with
 | _ n ih =>
  intro p hn x hx
  by_cases hlt : p < l.length
  ·have hw := decode_pos (strOfNums l) p (by rw [strOfNums_size]; exact hlt)
   rw [stepsFrom_cons _ _ (by rw [strOfNums_size]; exact hlt), List.mem_cons] at hx
   rcases hx with rfl | hx
   ·exact ⟨p, hlt, by rw [(first_of hb p hlt (by omega)).1]⟩
   ·exact ih (l.length - (p + (Utf8.decode (strOfNums l) p).2)) (by omega) _ rfl x hx
  ·rw [stepsFrom_nil _ _ (by rw [strOfNums_size]; exact hlt)] at hx
   cases hx
def toS (x : PStep) : S23 := ⟨x.2.1, x.2.2.1, x.2.2.2⟩
theorem steps_ev {l : List Int} (hb : Bytes l) (hl : l.length ≤ 4398046511104) (T : List PStep) (hT : ∀ x ∈ T, ∃ q : Nat, q < l.length ∧ x = ((q : Int), ofL l q)) (hTl : T.length ≤ 4398046511104) (e : Int) :
  ∀ (n i : Nat) (out : List S23), T.length - i = n → i ≤ T.length → out.length ≤ i → Ev (fun k => galleyref02_Steps.l0 k l out (T.map (·.1) ++ [e]) (i : Int)) (out ++ (T.drop i).map toS) := by
 intro n
 induction n with
 | zero =>
  intro i out hn hi ho
  obtain rfl : i = T.length := by omega
  have hw : wrap64 ((T.length : Int) + 1) = (T.length : Int) + 1 := wrap64_small (by omega) (by omega)
  refine Ev.succ (h := fun _ => some out) ?_ (fun k => ?_)
  ·simpa using Ev.pure out
  ·rw [galleyref02_Steps.l0, hw, if_neg (by simp)]
 | succ n ih =>
  intro i out hn hi ho
  have hlt : i < T.length := by omega
  have hw : wrap64 ((i : Int) + 1) = ((i + 1 : Nat) : Int) := by rw [wrap64_small (by omega) (by omega)]; omega
  obtain ⟨q, hq, hx⟩ := hT T[i] (List.getElem_mem hlt)
  have hrd : rd (T.map (·.1) ++ [e]) (i : Int) = (q : Int) := by
   unfold rd
   rw [List.getD_eq_getElem?_getD, Int.toNat_natCast, List.getElem?_append_left (by simpa using hlt), List.getElem?_map, List.getElem?_eq_getElem hlt, hx]
   rfl
  refine Ev.succ (h := fun k => (galleyref02_Of.f k l (q : Int)).bind fun b => galleyref02_Steps.l0 k l (out ++ [⟨b.1, b.2.1, b.2.2⟩]) (T.map (·.1) ++ [e]) ((i + 1 : Nat) : Int)) ?_ (fun k => ?_)
  ·refine Ev.bind (of_ev hb hl q hq) ?_
   have := ih (i + 1) (out ++ [⟨(ofL l q).1, (ofL l q).2.1, (ofL l q).2.2⟩]) (by omega) (by omega) (by simp; omega)
   rw [List.drop_eq_getElem_cons hlt, hx]
   simpa [toS] using this
  ·rw [galleyref02_Steps.l0, hw, if_pos (by simp; omega), if_pos (by omega), if_pos (by simp; omega), hrd]
   congr 1
   funext b
   rw [if_pos (show out.length < 5864062014805 by omega)]
/-- All steps, by the reference. -/
theorem ref_steps {l : List Int} (hb : Bytes l) (hl : l.length ≤ 4398046511103) : Ev (fun k => galleyref02_Steps.f k l) ((allSteps (strOfNums l)).map toS) := by
 unfold galleyref02_Steps.f
 have he := edges_ev l (by omega) (l.length + 1) 0 [] (by omega) (by simp)
 have hf := edges_from hb (by omega) l.length 0 (by omega) (by omega) (vis_zero l)
 rw [show l.length + 1 - 0 = l.length + 1 by omega] at hf
 rw [hf, List.nil_append] at he
 refine Ev.bind (v := (stepsFrom (strOfNums l) 0).map (·.1) ++ [(l.length : Int)]) ?_ ?_
 ·exact he
 ·have hlen := stepsFrom_length (strOfNums l) 0
  rw [strOfNums_size] at hlen
  have := steps_ev hb (by omega) (stepsFrom (strOfNums l) 0) (steps_mem hb (by omega) l.length 0 (by omega)) (by omega) (l.length : Int) (stepsFrom (strOfNums l) 0).length 0 [] (by omega) (by omega) (by simp)
  simpa [allSteps] using this

end Go.Proofs.YtijbkiajhicooaaDoor.PW

namespace Go.Proofs.YtijbkiajhicooaaDoor.PW
open Go.RowKit Go.Proofs.YtijbkiajhicooaaDoorW.PrintWords Go.Proofs.YtijbkiajhicooaaDoorW.PrintLast Go.Proofs.YtijbkiajhicooaaDoorW.PrintMore
attribute [local go_sem] max2_int min2_int max_two min_two max_three min_three max_four min_four   -- for this text's walks alone
set_option linter.unusedVariables false
set_option linter.unusedSimpArgs false

theorem ref_kind (r x : Int) (w : Bool) : galleyref22_Kind.f 4 r x w = some (kindOf r w) := by
 unfold galleyref22_Kind.f kindOf
 cases w with
 | false => rfl
 | true =>
  simp only [if_true, galleyref22_Kind.j0, galleyref22_Kind.j1]
  by_cases h1 : r = 32
  ·simp [h1]
  ·by_cases h2 : r = 9
   ·simp [h2]
   ·rw [if_neg h1]
    have e9 : (r == 9) = false := by simpa using h2
    rw [e9, if_neg (show ¬ (r = 32 ∨ r = 9) by omega)]
    simp only [Bool.false_eq_true, if_false]
    by_cases h3 : r = 10
    ·simp [h3]
    ·by_cases h4 : r = 13
     ·simp [h4]
     ·rw [if_neg h3]
      have e13 : (r == 13) = false := by simpa using h4
      rw [e13, if_neg (show ¬ (r = 10 ∨ r = 13) by omega)]
      simp only [Bool.false_eq_true, if_false]
      by_cases h5 : (48 ≤ r ∧ r ≤ 57) ∨ r = 95 ∨ (65 ≤ r ∧ r ≤ 90) ∨ (97 ≤ r ∧ r ≤ 122) ∨ 128 ≤ r
      ·rw [if_pos h5]
       repeat' split
       all_goals first | rfl | (exfalso; omega)
      ·rw [if_neg h5]
       repeat' split
       all_goals first | rfl | (exfalso; omega)
theorem ref_kind_ev (r x : Int) (w : Bool) : Ev (fun k => galleyref22_Kind.f k r x w) (kindOf r w) := by
 refine ⟨4, fun k hk => ?_⟩
 obtain ⟨m, rfl⟩ : ∃ m, k = 4 + m := ⟨k - 4, by omega⟩
 induction m with
 | zero => exact ref_kind r x w
 | succ m ih => exact galleyref22_Kind.mono r x w (4 + m) _ (ih (by omega))

end Go.Proofs.YtijbkiajhicooaaDoor.PW

namespace Go.Proofs.YtijbkiajhicooaaDoor.PW
open Go.RowKit Go.Proofs.YtijbkiajhicooaaDoorW.PrintWords Go.Proofs.YtijbkiajhicooaaDoorW.PrintLast Go.Proofs.YtijbkiajhicooaaDoorW.PrintMore
attribute [local go_sem] max2_int min2_int max_two min_two max_three min_three max_four min_four   -- for this text's walks alone
set_option linter.unusedVariables false
set_option linter.unusedSimpArgs false

theorem width_next {l : List Int} (hb : Bytes l) (hl : l.length ≤ 4398046511104) (p : Nat) (hp : p < l.length) : ((Utf8.decode (strOfNums l) p).2 : Int) = (ofL l p).2.1 ∧ p + (Utf8.decode (strOfNums l) p).2 ≤ l.length := by
 have h := (first_of hb p hp (by omega)).2
 obtain ⟨w1, w4, wl⟩ := widL_pos hb p hl hp
 refine ⟨h, ?_⟩
 have e : (ofL l p).2.1 = (widL l p : Int) := by
  unfold ofL widL
  by_cases g : longAt l (p : Int) = 0
  ·rw [if_pos g, if_pos g]; rfl
  ·rw [if_neg g, if_neg g]
   have := (longAt_facts hb p hl (by omega)).1
   show longAt l (p : Int) = _
   omega
 omega
theorem of22_l0 {l : List Int} (hb : Bytes l) (hl : l.length ≤ 4398046511103) : ∀ (n p : Nat) (pre : List S23) (ps ks : List Int), l.length - p = n → p ≤ l.length → pre.length ≤ p → ps.length ≤ p → ks.length ≤ p →
  Ev (fun k => galleyref22_Of.l0 k (pre ++ (stepsFrom (strOfNums l) p).map toS) (p : Int) (pre.length : Int) ps ks)
   (ps ++ ((stepsFrom (strOfNums l) p).map (·.1) ++ [(l.length : Int)]), ks ++ (stepsFrom (strOfNums l) p).map fun x => kindOf x.2.1 x.2.2.2) := by
 intro n
 induction n using Nat.strongRecOn with
 | _ n ih =>
  intro p pre ps ks hn hp h1 h2 h3
  by_cases hlt : p < l.length
  ·obtain ⟨hw, hwl⟩ := width_next hb (by omega) p hlt
   have hpos := decode_pos (strOfNums l) p (by rw [strOfNums_size]; exact hlt)
   rw [stepsFrom_cons _ _ (by rw [strOfNums_size]; exact hlt), (first_of hb p hlt (by omega)).1]
   generalize (Utf8.decode (strOfNums l) p).2 = d at *
   obtain ⟨⟨r, x, b⟩, hx⟩ : ∃ x, ofL l p = x := ⟨_, rfl⟩
   rw [hx] at hw ⊢
   replace hw : (d : Int) = x := hw
   have hrd : rd_T23 (pre ++ List.map toS (((p : Int), r, x, b) :: stepsFrom (strOfNums l) (p + d))) (pre.length : Int) = ⟨r, x, b⟩ := by
    unfold rd_T23
    rw [List.getD_eq_getElem?_getD, Int.toNat_natCast, List.getElem?_append_right (Nat.le_refl _)]
    simp [toS]
   have hn1 : wrap64 ((pre.length : Int) + 1) = ((pre ++ [toS ((p : Int), r, x, b)]).length : Int) := by rw [wrap64_small (by omega) (by omega)]; simp
   have hp1 : wrap64 ((p : Int) + x) = ((p + d : Nat) : Int) := by rw [wrap64_small (by omega) (by omega)]; omega
   have := ih (l.length - (p + d)) (by omega) (p + d) (pre ++ [toS ((p : Int), r, x, b)]) (ps ++ [(p : Int)]) (ks ++ [kindOf r b]) rfl (by omega) (by simp; omega) (by simp; omega) (by simp; omega)
   refine Ev.succ (h := fun k => (galleyref22_Kind.f k r x b).bind fun t => galleyref22_Of.l0 k (pre ++ List.map toS (((p : Int), r, x, b) :: stepsFrom (strOfNums l) (p + d))) ((p + d : Nat) : Int) ((pre ++ [toS ((p : Int), r, x, b)]).length : Int) (ps ++ [(p : Int)]) (ks ++ [t])) ?_ (fun k => ?_)
   ·refine Ev.bind (ref_kind_ev r x b) ?_
    simpa [List.append_assoc] using this
   ·rw [galleyref22_Of.l0, if_pos (by simp; omega), if_pos (by omega), hrd, hn1, hp1]
    congr 1
    funext t
    rw [if_pos (show ps.length < 17592186044416 by omega), if_pos (show ks.length < 17592186044416 by omega)]
  ·obtain rfl : p = l.length := by omega
   rw [stepsFrom_nil _ _ (by rw [strOfNums_size]; exact hlt)]
   refine Ev.succ (h := fun _ => some (ps ++ [(l.length : Int)], ks)) ?_ (fun k => ?_)
   ·simpa using Ev.pure (ps ++ [(l.length : Int)], ks)
   ·rw [galleyref22_Of.l0, if_neg (by simp), if_pos (show ps.length < 17592186044416 by omega)]

end Go.Proofs.YtijbkiajhicooaaDoor.PW

namespace Go.Proofs.YtijbkiajhicooaaDoor.PW
open Go.RowKit Go.Proofs.YtijbkiajhicooaaDoorW.PrintWords Go.Proofs.YtijbkiajhicooaaDoorW.PrintLast Go.Proofs.YtijbkiajhicooaaDoorW.PrintMore
attribute [local go_sem] max2_int min2_int max_two min_two max_three min_three max_four min_four   -- for this text's walks alone
set_option linter.unusedVariables false
set_option linter.unusedSimpArgs false

theorem ofL_wid {l : List Int} (hb : Bytes l) (hl : l.length ≤ 4398046511104) (p : Nat) (hp : p < l.length) : (ofL l p).2.1 = (widL l p : Int) := by
 unfold ofL widL
 by_cases g : longAt l (p : Int) = 0
 ·rw [if_pos g, if_pos g]; rfl
 ·rw [if_neg g, if_neg g]
  have := (longAt_facts hb p hl (by omega)).1
  show longAt l (p : Int) = _
  omega
theorem sf_cons {l : List Int} (hb : Bytes l) (hl : l.length ≤ 4398046511104) (p : Nat) (hp : p < l.length) :
  stepsFrom (strOfNums l) p = ((p : Int), ofL l p) :: stepsFrom (strOfNums l) (p + widL l p) := by
 have h := first_of hb p hp (by omega)
 have hw := ofL_wid hb hl p hp
 rw [stepsFrom_cons _ _ (by rw [strOfNums_size]; exact hp), h.1, show (Utf8.decode (strOfNums l) p).2 = widL l p by omega]
theorem sf_nil {l : List Int} (p : Nat) (hp : l.length ≤ p) : stepsFrom (strOfNums l) p = [] := stepsFrom_nil _ _ (by rw [strOfNums_size]; omega)
/-- A step's kind. -/
abbrev kOf (x : PStep) : Int := kindOf x.2.1 x.2.2.2
theorem runStep_nil (x : PStep) : runStep [] x = [⟨⟨x.1, wrap64 (x.1 + x.2.2.1)⟩, kOf x⟩] := by
 unfold runStep
 rw [if_neg (by simp)]
 rfl
theorem rd_run_last (rs : List S83) (r : S83) : rd_T83 (rs ++ [r]) (((rs ++ [r]).length : Int) - 1) = r := by
 unfold rd_T83
 rw [List.getD_eq_getElem?_getD, show (((rs ++ [r]).length : Int) - 1).toNat = rs.length by simp, List.getElem?_append_right (Nat.le_refl _)]
 simp
theorem runStep_snoc (rs : List S83) (r : S83) (x : PStep) :
  runStep (rs ++ [r]) x = if r.f1 = kOf x then rs ++ [⟨⟨r.f0.f0, wrap64 (x.1 + x.2.2.1)⟩, r.f1⟩] else (rs ++ [r]) ++ [⟨⟨x.1, wrap64 (x.1 + x.2.2.1)⟩, kOf x⟩] := by
 unfold runStep
 rw [rd_run_last]
 by_cases h : r.f1 = kOf x
 ·rw [if_pos ⟨by simp, h⟩, if_pos h, show (((rs ++ [r]).length : Int) - 1).toNat = rs.length by simp]
  rw [List.set_append_right _ _ (Nat.le_refl _)]
  simp
 ·rw [if_neg (fun g => h g.2), if_neg h]
end Go.Proofs.YtijbkiajhicooaaDoor.PW

namespace Go.Proofs.YtijbkiajhicooaaDoor.PW
open Go.RowKit Go.Proofs.YtijbkiajhicooaaDoorW.PrintWords Go.Proofs.YtijbkiajhicooaaDoorW.PrintLast Go.Proofs.YtijbkiajhicooaaDoorW.PrintMore
attribute [local go_sem] max2_int min2_int max_two min_two max_three min_three max_four min_four   -- for this text's walks alone
set_option linter.unusedVariables false
set_option linter.unusedSimpArgs false

theorem rd_places {l : List Int} (hb : Bytes l) (hl : l.length ≤ 4398046511104) (pre : List PStep) (p : Nat) (hp : p ≤ l.length) :
  rd ((pre ++ stepsFrom (strOfNums l) p).map (·.1) ++ [(l.length : Int)]) (pre.length : Int) = (p : Int) := by
 unfold rd
 rw [List.getD_eq_getElem?_getD, Int.toNat_natCast]
 by_cases h : p < l.length
 ·rw [sf_cons hb hl p h]
  simp
 ·obtain rfl : p = l.length := by omega
  rw [sf_nil _ (Nat.le_refl _)]
  simp
theorem rd_kinds_at (pre : List PStep) (x : PStep) (rest : List PStep) : rd ((pre ++ x :: rest).map kOf) (pre.length : Int) = kOf x := by
 unfold rd
 rw [List.getD_eq_getElem?_getD, Int.toNat_natCast]
 simp
theorem rd_kinds_last (pre : List PStep) (y : PStep) (rest : List PStep) : rd (((pre ++ [y]) ++ rest).map kOf) (((pre ++ [y]).length : Int) - 1) = kOf y := by
 rw [show (((pre ++ [y]).length : Int) - 1) = (pre.length : Int) by simp, List.append_assoc]
 exact rd_kinds_at pre y rest
theorem rd_hit_last (a : List S36) (h : S36) (n : Int) (hn : n = (a.length : Int)) : rd_T36 (a ++ [h]) n = h := by
 subst hn
 unfold rd_T36
 rw [List.getD_eq_getElem?_getD, Int.toNat_natCast, List.getElem?_append_right (Nat.le_refl _)]
 simp
theorem set_hit_last (a : List S36) (h g : S36) (n : Int) (hn : n = (a.length : Int)) : (a ++ [h]).set n.toNat g = a ++ [g] := by
 subst hn
 rw [Int.toNat_natCast, List.set_append_right _ _ (Nat.le_refl _)]
 simp
/-- The runs so far, and the last step's kind. -/
def RInv (pre : List PStep) (rs : List S83) : Prop := (pre = [] ∧ rs = []) ∨ ∃ pre' y rs' r, pre = pre' ++ [y] ∧ rs = rs' ++ [r] ∧ r.f1 = kOf y
theorem rinv_step {pre : List PStep} {rs : List S83} (h : RInv pre rs) (x : PStep) : RInv (pre ++ [x]) (runStep rs x) := by
 rcases h with ⟨rfl, rfl⟩ | ⟨pre', y, rs', r, rfl, rfl, hk⟩
 ·rw [runStep_nil]
  exact .inr ⟨[], x, [], _, rfl, rfl, rfl⟩
 ·rw [runStep_snoc]
  by_cases g : r.f1 = kOf x
  ·rw [if_pos g]
   exact .inr ⟨_, x, rs', _, rfl, rfl, g⟩
  ·rw [if_neg g]
   exact .inr ⟨_, x, rs' ++ [r], _, rfl, rfl, rfl⟩
theorem runs22_first (ps ks : List Int) (x : PStep) (q : Int) (c1 : 0 < ks.length) (c3 : 1 < ps.length) (q0 : rd ps 0 = x.1) (q1 : rd ps 1 = q) (k0 : rd ks 0 = kOf x) (e : wrap64 (x.1 + x.2.2.1) = q) (k : Nat) :
  galleyref22_Runs.l0 (k + 1) [] [] 0 ps ks = galleyref22_Runs.l0 k ((runStep [] x).map (·.f0)) ((runStep [] x).map (·.f1)) 1 ps ks := by
 have z1 : wrap64 ((0 : Int) + 1) = 1 := by unfold wrap64; omega
 have z0 : wrap64 (((([] : List S36) ++ [(⟨x.1, x.1⟩ : S36)]).length : Int) - 1) = 0 := by unfold wrap64; simp
 rw [galleyref22_Runs.l0, if_pos (by omega), if_pos rfl, if_pos (Int.le_refl _), if_pos (by omega), if_pos (by decide), q0, Option.bind_some, if_pos (by decide), z1, if_pos (by decide), if_pos (by omega), z0, if_pos (by decide), if_pos (by simp), q1, k0, runStep_nil, e]
 rfl
theorem runs22_next (ps ks : List Int) (x : PStep) (q : Int) (rs' : List S83) (r : S83) (i : Nat) (h0 : 0 < i) (hi : i ≤ 4398046511103) (hr : rs'.length ≤ 4398046511103) (c1 : i < ks.length) (c3 : i + 1 < ps.length) :
  (rd ps (i : Int) = x.1) → (rd ps ((i : Int) + 1) = q) → (rd ks (i : Int) = kOf x) → (rd ks ((i : Int) - 1) = r.f1) → (wrap64 (x.1 + x.2.2.1) = q) → ∀ (k : Nat),
  galleyref22_Runs.l0 (k + 1) ((rs' ++ [r]).map (·.f0)) ((rs' ++ [r]).map (·.f1)) (i : Int) ps ks = galleyref22_Runs.l0 k ((runStep (rs' ++ [r]) x).map (·.f0)) ((runStep (rs' ++ [r]) x).map (·.f1)) ((i : Int) + 1) ps ks := by
 have l0 : ((rs'.map (·.f0) ++ [r.f0]).length : Int) = (rs'.length : Int) + 1 := by simp
 have l1 : (((rs'.map (·.f0) ++ [r.f0]) ++ [(⟨x.1, x.1⟩ : S36)]).length : Int) = (rs'.length : Int) + 1 + 1 := by simp; omega
 have l2 : ((rs'.map (·.f1) ++ [r.f1]).length : Int) = (rs'.length : Int) + 1 := by simp
 have a1 : (i : Int) < (ks.length : Int) := by omega
 have a2 : ¬ (i : Int) = 0 := by omega
 have a3 : 0 ≤ (i : Int) := by omega
 have a4 : 0 ≤ (i : Int) - 1 := by omega
 have a5 : (i : Int) - 1 < (ks.length : Int) := by omega
 have a6 : 0 ≤ (i : Int) + 1 := by omega
 have a7 : (i : Int) + 1 < (ps.length : Int) := by omega
 have a8 : (i : Int) < (ps.length : Int) := by omega
 have b0 : 0 ≤ (rs'.length : Int) := by omega
 have b1 : (rs'.length : Int) < ((rs'.map (·.f0) ++ [r.f0]).length : Int) := by omega
 have b2 : (rs'.map (·.f0) ++ [r.f0]).length < 8796093022208 := by omega
 have b3 : (rs'.map (·.f1) ++ [r.f1]).length < 17592186044416 := by omega
 have b4 : 0 ≤ (rs'.length : Int) + 1 := by omega
 have b5 : (rs'.length : Int) + 1 < (((rs'.map (·.f0) ++ [r.f0]) ++ [(⟨x.1, x.1⟩ : S36)]).length : Int) := by omega
 have d0 : (rs'.length : Int) = ((rs'.map (·.f0)).length : Int) := by simp
 have hm0 : (rs' ++ [r]).map (·.f0) = rs'.map (·.f0) ++ [r.f0] := by simp
 have hm1 : (rs' ++ [r]).map (·.f1) = rs'.map (·.f1) ++ [r.f1] := by simp
 have wi : wrap64 ((i : Int) + 1) = (i : Int) + 1 := wrap64_small (by omega) (by omega)
 have w1' : wrap64 ((i : Int) - 1) = (i : Int) - 1 := wrap64_small (by omega) (by omega)
 have w2' : wrap64 (((rs'.map (·.f0) ++ [r.f0]).length : Int) - 1) = (rs'.length : Int) := by rw [l0, Int.add_sub_cancel, wrap64_small (by omega) (by omega)]
 have w3' : wrap64 ((((rs'.map (·.f0) ++ [r.f0]) ++ [(⟨x.1, x.1⟩ : S36)]).length : Int) - 1) = (rs'.length : Int) + 1 := by rw [l1, Int.add_sub_cancel, wrap64_small (by omega) (by omega)]
 intro q0 q1 k0 kl e k
 rw [galleyref22_Runs.l0, if_pos a1, if_neg a2, if_pos a3, w1', if_pos a4, if_pos a5, k0, kl, runStep_snoc, e]
 by_cases g : r.f1 = kOf x
 ·rw [if_pos g.symm, if_pos g, wi, if_pos a6, if_pos a7, hm0, w2', if_pos b0, if_pos b1, rd_hit_last (rs'.map (·.f0)) r.f0 (rs'.length : Int) d0, set_hit_last (rs'.map (·.f0)) r.f0 _ (rs'.length : Int) d0, q1]
  simp
 ·rw [if_neg (fun e => g e.symm), if_neg g, if_pos a8, hm0, hm1, if_pos b2, Option.bind_some, if_pos b3, wi, if_pos a6, if_pos a7, q0, q1]
  rw [w3', if_pos b4, if_pos b5, rd_hit_last (rs'.map (·.f0) ++ [r.f0]) ⟨x.1, x.1⟩ ((rs'.length : Int) + 1) l0.symm, set_hit_last (rs'.map (·.f0) ++ [r.f0]) ⟨x.1, x.1⟩ _ ((rs'.length : Int) + 1) l0.symm]
  simp
theorem runs22_l0 {l : List Int} (hb : Bytes l) (hl : l.length ≤ 4398046511103) (T : List PStep) : ∀ (n p : Nat) (pre : List PStep) (rs : List S83), l.length - p = n → p ≤ l.length → T = pre ++ stepsFrom (strOfNums l) p →
  pre.length ≤ p → rs.length ≤ pre.length → RInv pre rs →
  Ev (fun k => galleyref22_Runs.l0 k (rs.map (·.f0)) (rs.map (·.f1)) (pre.length : Int) (T.map (·.1) ++ [(l.length : Int)]) (T.map kOf))
   (((stepsFrom (strOfNums l) p).foldl runStep rs).map (·.f0), ((stepsFrom (strOfNums l) p).foldl runStep rs).map (·.f1)) := by
 intro n
 induction n using Nat.strongRecOn with
 | _ n ih =>
  intro p pre rs hn hp hT h1 h2 hI
  by_cases hlt : p < l.length
  ·obtain ⟨w1, w4, wl⟩ := widL_pos hb p (by omega) hlt
   have hw := ofL_wid hb (by omega) p hlt
   have q0 := rd_places hb (by omega) pre p hp
   have hw2 : wrap64 ((p : Int) + (ofL l p).2.1) = ((p + widL l p : Nat) : Int) := by rw [hw, wrap64_small (by omega) (by omega)]; omega
   obtain ⟨x, hx⟩ : ∃ x : PStep, x = ((p : Int), ofL l p) := ⟨_, rfl⟩
   have hc : stepsFrom (strOfNums l) p = x :: stepsFrom (strOfNums l) (p + widL l p) := by rw [hx]; exact sf_cons hb (by omega) p hlt
   have hT2 : T = (pre ++ [x]) ++ stepsFrom (strOfNums l) (p + widL l p) := by rw [hT, hc]; simp
   have hlen : T.length = pre.length + 1 + (stepsFrom (strOfNums l) (p + widL l p)).length := by rw [hT2]; simp; omega
   have c1 : pre.length < (T.map kOf).length := by simp; omega
   have c3 : pre.length + 1 < (T.map (·.1) ++ [(l.length : Int)]).length := by simp; omega
   have hl1 : ((pre ++ [x]).length : Int) = (pre.length : Int) + 1 := by simp
   have hpl : pre.length ≤ 4398046511103 := by omega
   have hrl := runStep_length rs x
   have hp2 : (pre ++ [x]).length ≤ p + widL l p := by simp; omega
   have hr2 : (runStep rs x).length ≤ (pre ++ [x]).length := by simp; omega
   have hlt2 : l.length - (p + widL l p) < n := by omega
   have hrl3 : rs.length ≤ 4398046511103 := by omega
   have := ih _ hlt2 (p + widL l p) (pre ++ [x]) (runStep rs x) rfl wl hT2 hp2 hr2 (rinv_step hI _)
   have q1 := rd_places hb (by omega) (pre ++ [x]) (p + widL l p) wl
   have hx1 : x.1 = (p : Int) := by rw [hx]
   have e1x : wrap64 (x.1 + x.2.2.1) = ((p + widL l p : Nat) : Int) := by rw [hx]; exact hw2
   rw [List.append_assoc, List.singleton_append, ← hc, ← hT] at q1
   rw [← hT] at q0
   have k0 : rd (T.map kOf) (pre.length : Int) = kOf x := by rw [hT2, List.append_assoc]; exact rd_kinds_at pre _ _
   rw [hc, List.foldl_cons]
   rw [hl1] at this q1
   rcases hI with ⟨rfl, rfl⟩ | ⟨pre', y, rs', r, rfl, rfl, hk⟩
   ·exact Ev.succ this fun k => runs22_first _ _ x _ c1 c3 (q0.trans hx1.symm) q1 k0 e1x k
   ·have kl : rd (T.map kOf) (((pre' ++ [y]).length : Int) - 1) = r.f1 := by rw [hT, hk]; exact rd_kinds_last pre' y _
    refine Ev.succ this fun k => runs22_next _ _ x _ rs' r _ (by simp) hpl ?_ c1 c3 (q0.trans hx1.symm) q1 k0 kl e1x k
    rw [List.length_append] at hrl3
    exact Nat.le_trans (Nat.le_add_right _ _) hrl3
  ·obtain rfl : p = l.length := by omega
   rw [sf_nil _ (Nat.le_refl _), List.append_nil] at hT
   rw [sf_nil _ (Nat.le_refl _)]
   refine Ev.succ (h := fun _ => some (rs.map (·.f0), rs.map (·.f1))) (Ev.pure _) (fun k => ?_)
   rw [galleyref22_Runs.l0, if_neg (by rw [hT]; simp)]
/-- The steps of a text. -/
abbrev stepsL (l : List Int) : List PStep := allSteps (strOfNums l)
theorem of22_ev {l : List Int} (hb : Bytes l) (hl : l.length ≤ 4398046511103) : Ev (fun k => galleyref22_Of.f k l) ((stepsL l).map (·.1) ++ [(l.length : Int)], (stepsL l).map kOf) := by
 have h := of22_l0 hb hl l.length 0 [] [] [] (by omega) (by omega) (by simp) (by simp) (by simp)
 simp only [List.nil_append] at h
 exact Ev.bind (ref_steps hb hl) h
theorem runs22_ev {l : List Int} (hb : Bytes l) (hl : l.length ≤ 4398046511103) : Ev (fun k => galleyref22_Runs.f k l) ((runsOf l).map (·.f0), (runsOf l).map (·.f1)) := by
 have h := runs22_l0 hb hl (stepsL l) l.length 0 [] [] (by omega) (by omega) rfl (by simp) (by simp) (.inl ⟨rfl, rfl⟩)
 exact Ev.bind (of22_ev hb hl) h

end Go.Proofs.YtijbkiajhicooaaDoor.PW

namespace Go.Proofs.YtijbkiajhicooaaDoor.PW
open Go.RowKit Go.Proofs.YtijbkiajhicooaaDoorW.PrintWords Go.Proofs.YtijbkiajhicooaaDoorW.PrintLast Go.Proofs.YtijbkiajhicooaaDoorW.PrintMore
attribute [local go_sem] max2_int min2_int max_two min_two max_three min_three max_four min_four   -- for this text's walks alone
set_option linter.unusedVariables false
set_option linter.unusedSimpArgs false

theorem words_all_l0 (rs : List S83) (hl : rs.length ≤ 4398046511104) : ∀ (n i : Nat) (out : List S36), rs.length - i = n → i ≤ rs.length → out.length ≤ i →
  Ev (fun k => words_All.l0 k out rs (rs.length : Int) (i : Int)) (out ++ ((rs.drop i).filter fun r => r.f1 == 3).map fun r => ⟨r.f0.f0, r.f0.f1⟩) := by
 intro n
 induction n with
 | zero =>
  intro i out hn hi ho
  obtain rfl : i = rs.length := by omega
  refine Ev.succ (h := fun _ => some out) ?_ (fun k => ?_)
  ·simpa using Ev.pure out
  ·rw [words_All.l0, if_neg (by omega)]
 | succ n ih =>
  intro i out hn hi ho
  have hlt : i < rs.length := by omega
  have hw : wrap64 ((i : Int) + 1) = ((i + 1 : Nat) : Int) := by rw [wrap64_small (by omega) (by omega)]; omega
  have hrd : rd_T83 rs (i : Int) = rs[i] := by
   unfold rd_T83
   rw [List.getD_eq_getElem?_getD, Int.toNat_natCast, List.getElem?_eq_getElem hlt]
   rfl
  rw [List.drop_eq_getElem_cons hlt, List.filter_cons]
  by_cases h3 : (rs[i]).f1 = 3
  ·refine Ev.succ (h := fun k => words_All.l0 k (out ++ [⟨(rs[i]).f0.f0, (rs[i]).f0.f1⟩]) rs (rs.length : Int) ((i + 1 : Nat) : Int)) ?_ (fun k => ?_)
   ·rw [if_pos (by simpa using h3)]
    have := ih (i + 1) (out ++ [⟨(rs[i]).f0.f0, (rs[i]).f0.f1⟩]) (by omega) (by omega) (by simp; omega)
    rw [List.append_assoc] at this
    exact this
   ·rw [words_All.l0, if_pos (by omega), if_pos (by omega), if_pos (by omega), hrd, if_pos h3, if_pos (by omega), hw]
  ·refine Ev.succ (h := fun k => words_All.l0 k out rs (rs.length : Int) ((i + 1 : Nat) : Int)) ?_ (fun k => ?_)
   ·rw [if_neg (by simpa using h3)]
    exact ih (i + 1) out (by omega) (by omega) (by omega)
   ·rw [words_All.l0, if_pos (by omega), if_pos (by omega), if_pos (by omega), hrd, if_neg h3, hw]

end Go.Proofs.YtijbkiajhicooaaDoor.PW

namespace Go.Proofs.YtijbkiajhicooaaDoor.PW
open Go.RowKit Go.Proofs.YtijbkiajhicooaaDoorW.PrintWords Go.Proofs.YtijbkiajhicooaaDoorW.PrintLast Go.Proofs.YtijbkiajhicooaaDoorW.PrintMore
attribute [local go_sem] max2_int min2_int max_two min_two max_three min_three max_four min_four   -- for this text's walks alone
set_option linter.unusedVariables false
set_option linter.unusedSimpArgs false

theorem rd_map_hit (rs : List S83) (i : Nat) (h : i < rs.length) : rd_T36 (rs.map (·.f0)) (i : Int) = rs[i].f0 := by
 unfold rd_T36
 rw [List.getD_eq_getElem?_getD, Int.toNat_natCast, List.getElem?_map, List.getElem?_eq_getElem h]
 rfl
theorem rd_map_kind (rs : List S83) (i : Nat) (h : i < rs.length) : rd (rs.map (·.f1)) (i : Int) = rs[i].f1 := by
 unfold rd
 rw [List.getD_eq_getElem?_getD, Int.toNat_natCast, List.getElem?_map, List.getElem?_eq_getElem h]
 rfl
theorem all22_l0 (rs : List S83) (hl : rs.length ≤ 4398046511104) : ∀ (n i : Nat) (out : List S36), rs.length - i = n → i ≤ rs.length → out.length ≤ i →
  Ev (fun k => galleyref22_All.l0 k (rs.map (·.f0)) (rs.map (·.f1)) out (i : Int)) (out ++ ((rs.drop i).filter fun r => r.f1 == 3).map (·.f0)) := by
 intro n
 induction n with
 | zero =>
  intro i out hn hi ho
  obtain rfl : i = rs.length := by omega
  refine Ev.succ (h := fun _ => some out) ?_ (fun k => ?_)
  ·simpa using Ev.pure out
  ·rw [galleyref22_All.l0, if_neg (by simp)]
 | succ n ih =>
  intro i out hn hi ho
  have hlt : i < rs.length := by omega
  have hw : wrap64 ((i : Int) + 1) = ((i + 1 : Nat) : Int) := by rw [wrap64_small (by omega) (by omega)]; omega
  have c1 : (i : Int) < ((rs.map (·.f0)).length : Int) := by simp; omega
  have c2 : (i : Int) < ((rs.map (·.f1)).length : Int) := by simp; omega
  have c3 : (0 : Int) ≤ (i : Int) := by omega
  have c4 : out.length < 8796093022208 := by omega
  have ih1 := ih (i + 1) (out ++ [rs[i].f0]) (by omega) (by omega) (by simp; omega)
  have ih2 := ih (i + 1) out (by omega) (by omega) (by omega)
  have h1 := rd_map_hit rs i hlt
  have h2 := rd_map_kind rs i hlt
  rw [List.drop_eq_getElem_cons hlt, List.filter_cons]
  by_cases h3 : rs[i].f1 = 3
  ·refine Ev.succ (h := fun k => galleyref22_All.l0 k (rs.map (·.f0)) (rs.map (·.f1)) (out ++ [rs[i].f0]) ((i + 1 : Nat) : Int)) ?_ (fun k => ?_)
   ·rw [if_pos (by simpa using h3)]
    rw [List.append_assoc] at ih1
    exact ih1
   ·rw [galleyref22_All.l0, if_pos c1, if_pos c3, if_pos c2, h1, h2, if_pos h3, if_pos c4, hw]
  ·refine Ev.succ (h := fun k => galleyref22_All.l0 k (rs.map (·.f0)) (rs.map (·.f1)) out ((i + 1 : Nat) : Int)) ?_ (fun k => ?_)
   ·rw [if_neg (by simpa using h3)]
    exact ih2
   ·rw [galleyref22_All.l0, if_pos c1, if_pos c3, if_pos c2, h2, if_neg h3, hw]
/-- The words' pieces. -/
def wordsOf (l : List Int) : List S36 := ((runsOf l).filter fun r => r.f1 == 3).map (·.f0)
theorem runsOf_length (l : List Int) : (runsOf l).length ≤ l.length := by
 have h1 := runs_length (stepsL l) []
 have h2 := stepsFrom_length (strOfNums l) 0
 rw [strOfNums_size] at h2
 unfold runsOf
 unfold stepsL allSteps at h1
 unfold allSteps
 simp only [List.length_nil] at h1
 omega
theorem wordsOf_length (l : List Int) : (wordsOf l).length ≤ l.length := by
 unfold wordsOf
 rw [List.length_map]
 exact Nat.le_trans (List.length_filter_le _ _) (runsOf_length l)
theorem ref_all_ev {l : List Int} (hb : Bytes l) (hl : l.length ≤ 4398046511103) : Ev (fun k => galleyref22_All.f k l) (wordsOf l) := by
 have hr := runsOf_length l
 have h := all22_l0 (runsOf l) (by omega) (runsOf l).length 0 [] (by omega) (by omega) (by simp)
 exact Ev.bind (runs22_ev hb hl) h
theorem words_all_ev {l : List Int} (hl : l.length ≤ 4398046511103) : Ev (fun k => words_All.f k l) (wordsOf l) := by
 have hr := runsOf_length l
 have h := words_all_l0 (runsOf l) (by omega) (runsOf l).length 0 [] (by omega) (by omega) (by simp)
 have e : words_runs.f l = some (runsOf l) := by unfold words_runs.f; rw [if_pos (by omega)]
 refine Ev.bind (Ev.of_eq fun _ => e) ?_
 exact h
theorem own_some (l : List Int) (hl : l.length ≤ 4398046511103) : galleylaw22_own.f l = some l := by
 unfold galleylaw22_own.f
 rw [Option.bind_some, if_pos (by simp; omega), List.nil_append]
end Go.Proofs.YtijbkiajhicooaaDoor.PW
namespace Go.Proofs.YtijbkiajhicooaaDoor.Pure
open Go.Proofs.YtijbkiajhicooaaDoor.PW Go.RowKit
end Go.Proofs.YtijbkiajhicooaaDoor.Pure
namespace Go.Proofs.YtijbkiajhicooaaDoor.PW

end Go.Proofs.YtijbkiajhicooaaDoor.PW

namespace Go.Proofs.YtijbkiajhicooaaDoor.PW
open Go.RowKit Go.Proofs.YtijbkiajhicooaaDoorW.PrintWords Go.Proofs.YtijbkiajhicooaaDoorW.PrintLast Go.Proofs.YtijbkiajhicooaaDoorW.PrintMore
attribute [local go_sem] max2_int min2_int max_two min_two max_three min_three max_four min_four   -- for this text's walks alone
set_option linter.unusedVariables false
set_option linter.unusedSimpArgs false

theorem outside_ev (l : List Int) (a : Int) : words_outside.f l a = some (decide (a < 0 ∨ a > (l.length : Int))) := by
 unfold words_outside.f
 by_cases h : a < 0
 ·rw [if_pos h, decide_eq_true (.inl h)]
 ·rw [if_neg h]
  by_cases g : a > (l.length : Int)
  ·rw [decide_eq_true g, decide_eq_true (.inr g)]
  ·rw [decide_eq_false g, decide_eq_false (by omega)]
theorem rd_hit (ws : List S36) (i : Nat) (h : i < ws.length) : rd_T36 ws (i : Int) = ws[i] := by
 unfold rd_T36
 rw [List.getD_eq_getElem?_getD, Int.toNat_natCast, List.getElem?_eq_getElem h]
 rfl
def nextOf (len a : Int) : List S36 → Int
 | [] => len
 | h :: t => if h.f0 > a then h.f0 else nextOf len a t
def prevOf (a : Int) : List S36 → Int → Int
 | [], b => b
 | h :: t, b => prevOf a t (if h.f0 < a then h.f0 else b)
theorem next_l0 (l : List Int) (a : Int) (ws : List S36) (hl : ws.length ≤ 4398046511104) : ∀ (n i : Nat), ws.length - i = n → i ≤ ws.length →
  Ev (fun k => words_Next.l0 k l a ws (ws.length : Int) (i : Int)) (nextOf (l.length : Int) a (ws.drop i), 0) := by
 intro n
 induction n with
 | zero =>
  intro i hn hi
  obtain rfl : i = ws.length := by omega
  rw [List.drop_length]
  refine Ev.succ (h := fun _ => some ((l.length : Int), 0)) (Ev.pure _) (fun k => ?_)
  rw [words_Next.l0, if_neg (by omega)]
 | succ n ih =>
  intro i hn hi
  have hlt : i < ws.length := by omega
  have hw : wrap64 ((i : Int) + 1) = ((i + 1 : Nat) : Int) := by rw [wrap64_small (by omega) (by omega)]; omega
  have c1 : (i : Int) < (ws.length : Int) := by omega
  have c3 : (0 : Int) ≤ (i : Int) := by omega
  have ih1 := ih (i + 1) (by omega) (by omega)
  have h1 := rd_hit ws i hlt
  rw [List.drop_eq_getElem_cons hlt]
  by_cases g : (ws[i]).f0 > a
  ·simp only [nextOf, if_pos g]
   refine Ev.succ (h := fun _ => some ((ws[i]).f0, 0)) (Ev.pure _) (fun k => ?_)
   rw [words_Next.l0, if_pos c1, if_pos c3, if_pos c1, h1, if_pos g]
  ·simp only [nextOf, if_neg g]
   refine Ev.succ ih1 (fun k => ?_)
   rw [words_Next.l0, if_pos c1, if_pos c3, if_pos c1, h1, if_neg g, hw]
theorem next22_l0 (l : List Int) (a : Int) (ws : List S36) (hl : ws.length ≤ 4398046511104) : ∀ (n i : Nat), ws.length - i = n → i ≤ ws.length →
  Ev (fun k => galleyref22_Next.l0 k l a ws (i : Int)) (nextOf (l.length : Int) a (ws.drop i), 0) := by
 intro n
 induction n with
 | zero =>
  intro i hn hi
  obtain rfl : i = ws.length := by omega
  rw [List.drop_length]
  refine Ev.succ (h := fun _ => some ((l.length : Int), 0)) (Ev.pure _) (fun k => ?_)
  rw [galleyref22_Next.l0, if_neg (by omega)]
 | succ n ih =>
  intro i hn hi
  have hlt : i < ws.length := by omega
  have hw : wrap64 ((i : Int) + 1) = ((i + 1 : Nat) : Int) := by rw [wrap64_small (by omega) (by omega)]; omega
  have c1 : (i : Int) < (ws.length : Int) := by omega
  have c3 : (0 : Int) ≤ (i : Int) := by omega
  have ih1 := ih (i + 1) (by omega) (by omega)
  have h1 := rd_hit ws i hlt
  rw [List.drop_eq_getElem_cons hlt]
  by_cases g : (ws[i]).f0 > a
  ·simp only [nextOf, if_pos g]
   refine Ev.succ (h := fun _ => some ((ws[i]).f0, 0)) (Ev.pure _) (fun k => ?_)
   rw [galleyref22_Next.l0, if_pos c1, if_pos c3, h1, if_pos g]
  ·simp only [nextOf, if_neg g]
   refine Ev.succ ih1 (fun k => ?_)
   rw [galleyref22_Next.l0, if_pos c1, if_pos c3, h1, if_neg g, hw]
theorem prev_l0 (a : Int) (ws : List S36) (hl : ws.length ≤ 4398046511104) : ∀ (n i : Nat) (b : Int), ws.length - i = n → i ≤ ws.length →
  Ev (fun k => words_Prev.l0 k a b ws (ws.length : Int) (i : Int)) (prevOf a (ws.drop i) b, 0) := by
 intro n
 induction n with
 | zero =>
  intro i b hn hi
  obtain rfl : i = ws.length := by omega
  rw [List.drop_length]
  refine Ev.succ (h := fun _ => some (b, 0)) (Ev.pure _) (fun k => ?_)
  rw [words_Prev.l0, if_neg (by omega)]
 | succ n ih =>
  intro i b hn hi
  have hlt : i < ws.length := by omega
  have hw : wrap64 ((i : Int) + 1) = ((i + 1 : Nat) : Int) := by rw [wrap64_small (by omega) (by omega)]; omega
  have c1 : (i : Int) < (ws.length : Int) := by omega
  have c3 : (0 : Int) ≤ (i : Int) := by omega
  have ih1 := fun b => ih (i + 1) b (by omega) (by omega)
  have h1 := rd_hit ws i hlt
  rw [List.drop_eq_getElem_cons hlt]
  by_cases g : (ws[i]).f0 < a
  ·simp only [prevOf, if_pos g]
   refine Ev.succ (ih1 _) (fun k => ?_)
   rw [words_Prev.l0, if_pos c1, if_pos c3, if_pos c1, h1, if_pos g, hw]
  ·simp only [prevOf, if_neg g]
   refine Ev.succ (ih1 _) (fun k => ?_)
   rw [words_Prev.l0, if_pos c1, if_pos c3, if_pos c1, h1, if_neg g, hw]
theorem prev22_l0 (a : Int) (ws : List S36) (hl : ws.length ≤ 4398046511104) : ∀ (n i : Nat) (b : Int), ws.length - i = n → i ≤ ws.length →
  Ev (fun k => galleyref22_Prev.l0 k a ws b (i : Int)) (prevOf a (ws.drop i) b, 0) := by
 intro n
 induction n with
 | zero =>
  intro i b hn hi
  obtain rfl : i = ws.length := by omega
  rw [List.drop_length]
  refine Ev.succ (h := fun _ => some (b, 0)) (Ev.pure _) (fun k => ?_)
  rw [galleyref22_Prev.l0, if_neg (by omega)]
 | succ n ih =>
  intro i b hn hi
  have hlt : i < ws.length := by omega
  have hw : wrap64 ((i : Int) + 1) = ((i + 1 : Nat) : Int) := by rw [wrap64_small (by omega) (by omega)]; omega
  have c1 : (i : Int) < (ws.length : Int) := by omega
  have c3 : (0 : Int) ≤ (i : Int) := by omega
  have ih1 := fun b => ih (i + 1) b (by omega) (by omega)
  have h1 := rd_hit ws i hlt
  rw [List.drop_eq_getElem_cons hlt]
  by_cases g : (ws[i]).f0 < a
  ·simp only [prevOf, if_pos g]
   refine Ev.succ (ih1 _) (fun k => ?_)
   rw [galleyref22_Prev.l0, if_pos c1, if_pos c3, h1, if_pos g, hw]
  ·simp only [prevOf, if_neg g]
   refine Ev.succ (ih1 _) (fun k => ?_)
   rw [galleyref22_Prev.l0, if_pos c1, if_pos c3, h1, if_neg g, hw]
/-- The answers of Next and Prev. -/
def goNext (l : List Int) (a : Int) : Int × Int := if a < 0 ∨ a > (l.length : Int) then (0, 2) else (nextOf (l.length : Int) a (wordsOf l), 0)
def goPrev (l : List Int) (a : Int) : Int × Int := if a < 0 ∨ a > (l.length : Int) then (0, 2) else (prevOf a (wordsOf l) 0, 0)
theorem words_next_ev {l : List Int} (hl : l.length ≤ 4398046511103) (a : Int) : Ev (fun k => words_Next.f k l a) (goNext l a) := by
 refine Ev.bind (Ev.of_eq fun _ => outside_ev l a) ?_
 have hlen := wordsOf_length l
 unfold goNext
 by_cases h : a < 0 ∨ a > (l.length : Int)
 ·rw [if_pos h]
  exact Ev.of_eq fun _ => if_pos (decide_eq_true h)
 ·rw [if_neg h]
  refine Ev.congr (Ev.bind (h := fun k t => words_Next.l0 k l a t (t.length : Int) 0) (words_all_ev hl) (next_l0 l a (wordsOf l) (by omega) _ 0 rfl (by omega))) (fun k => ?_)
  exact if_neg (by rw [decide_eq_false h]; decide)
theorem words_prev_ev {l : List Int} (hl : l.length ≤ 4398046511103) (a : Int) : Ev (fun k => words_Prev.f k l a) (goPrev l a) := by
 refine Ev.bind (Ev.of_eq fun _ => outside_ev l a) ?_
 have hlen := wordsOf_length l
 unfold goPrev
 by_cases h : a < 0 ∨ a > (l.length : Int)
 ·rw [if_pos h]
  exact Ev.of_eq fun _ => if_pos (decide_eq_true h)
 ·rw [if_neg h]
  refine Ev.congr (Ev.bind (h := fun k t => words_Prev.l0 k a 0 t (t.length : Int) 0) (words_all_ev hl) (prev_l0 a (wordsOf l) (by omega) _ 0 0 rfl (by omega))) (fun k => ?_)
  exact if_neg (by rw [decide_eq_false h]; decide)
theorem ref_next_ev {l : List Int} (hb : Bytes l) (hl : l.length ≤ 4398046511103) (a : Int) : Ev (fun k => galleyref22_Next.f k l a) (goNext l a) := by
 have hlen := wordsOf_length l
 have hj : ∀ b : Bool, b = decide (a < 0 ∨ a > (l.length : Int)) → Ev (fun k => galleyref22_Next.j0 k l a b) (goNext l a) := by
  intro b hb'
  unfold goNext
  by_cases h : a < 0 ∨ a > (l.length : Int)
  ·rw [if_pos h]
   refine Ev.succ (h := fun _ => some (0, 2)) (Ev.pure _) (fun k => ?_)
   rw [galleyref22_Next.j0, if_pos (by rw [hb', decide_eq_true h])]
  ·rw [if_neg h]
   refine Ev.succ (Ev.bind (h := fun k t => galleyref22_Next.l0 k l a t 0) (ref_all_ev hb hl) (next22_l0 l a (wordsOf l) (by omega) _ 0 rfl (by omega))) (fun k => ?_)
   rw [galleyref22_Next.j0, if_neg (by rw [hb', decide_eq_false h]; decide)]
 unfold galleyref22_Next.f
 by_cases h : a < 0
 ·simp only [if_pos h]
  exact hj _ (decide_eq_true (.inl h)).symm
 ·simp only [if_neg h]
  exact hj _ (by by_cases g : a > (l.length : Int) <;> simp [g, h])
theorem ref_prev_ev {l : List Int} (hb : Bytes l) (hl : l.length ≤ 4398046511103) (a : Int) : Ev (fun k => galleyref22_Prev.f k l a) (goPrev l a) := by
 have hlen := wordsOf_length l
 have hj : ∀ b : Bool, b = decide (a < 0 ∨ a > (l.length : Int)) → Ev (fun k => galleyref22_Prev.j0 k l a b) (goPrev l a) := by
  intro b hb'
  unfold goPrev
  by_cases h : a < 0 ∨ a > (l.length : Int)
  ·rw [if_pos h]
   refine Ev.succ (h := fun _ => some (0, 2)) (Ev.pure _) (fun k => ?_)
   rw [galleyref22_Prev.j0, if_pos (by rw [hb', decide_eq_true h])]
  ·rw [if_neg h]
   refine Ev.succ (Ev.bind (h := fun k t => galleyref22_Prev.l0 k a t 0 0) (ref_all_ev hb hl) (prev22_l0 a (wordsOf l) (by omega) _ 0 0 rfl (by omega))) (fun k => ?_)
   rw [galleyref22_Prev.j0, if_neg (by rw [hb', decide_eq_false h]; decide)]
 unfold galleyref22_Prev.f
 by_cases h : a < 0
 ·simp only [if_pos h]
  exact hj _ (decide_eq_true (.inl h)).symm
 ·simp only [if_neg h]
  exact hj _ (by by_cases g : a > (l.length : Int) <;> simp [g, h])
end Go.Proofs.YtijbkiajhicooaaDoor.PW
namespace Go.Proofs.YtijbkiajhicooaaDoor.Pure
open Go.Proofs.YtijbkiajhicooaaDoor.PW Go.RowKit
theorem WordsGo (l0 : List Int) (a1 : Int) (hl : l0.length ≤ 1048576) (hw : ∀ x ∈ l0, (Lit.int .u8 x).wf = true) (_ha1 : (Lit.int .i64 a1).wf = true) : ∃ k, galleylaw22_WordsGo.f k l0 a1 = some true := by
 have hb := bytes_of_wf hw
 refine Ev.some (Ev.bind (Ev.of_eq fun _ => rfl) ?_)
 refine Ev.bind (Ev.of_eq fun _ => own_some l0 (by omega)) ?_
 refine Ev.bind (words_next_ev (by omega) a1) ?_
 refine Ev.bind (ref_next_ev hb (by omega) a1) ?_
 refine Ev.bind (Ev.of_eq fun _ => own_some l0 (by omega)) ?_
 refine Ev.bind (words_prev_ev (by omega) a1) ?_
 refine Ev.bind (ref_prev_ev hb (by omega) a1) ?_
 refine Ev.of_eq fun _ => ?_
 simp
end Go.Proofs.YtijbkiajhicooaaDoor.Pure
namespace Go.Proofs.YtijbkiajhicooaaDoor.PW

end Go.Proofs.YtijbkiajhicooaaDoor.PW

