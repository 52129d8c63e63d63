-- Written by merge.py, a program of this session's: PWx58 PWx39 PureDecode PureEdges PureSteps PureRunsT PureRuns22 PureWAll PureWordsAll PureWordsGo PureWordsToAndFro
import Derived.Test.YtijbkiajhicooaaDoorWordsToAndFroM1
import Derived.Test.YtijbkiajhicooaaDoorWordsToAndFroM3
import Derived.Lib.Bytes
namespace Go.Proofs.YtijbkiajhicooaaDoor.PW
open Go.RowKit Go.Proofs.YtijbkiajhicooaaDoorW.PrintWords Go.Proofs.YtijbkiajhicooaaDoorW.PrintLast Go.Proofs.YtijbkiajhicooaaDoorW.PrintMore
attribute [local go_sem] max2_int min2_int max_two min_two max_three min_three max_four min_four   -- for this text's walks alone
set_option linter.unusedVariables false
set_option linter.unusedSimpArgs false

mutual
def galleylaw22_WordsToAndFro.l0 : Nat → List Int → List (S36) → Int → Int → Option (Bool)
 | 0, _, _, _, _ => none
 | k + 1, x0, x3, x4, x5 => if x5 < (x3.length : Int) then (if 0 ≤ x5 then (if ((rd_T36 x3 x5).f0) = 0 then (galleylaw22_WordsToAndFro.l0 k x0 x3 x4 (wrap64 (x5 + 1))) else ((galleylaw22_own.f x0).bind fun t413 => ((words_Next.f k t413 x4).bind fun bt416 => (if bt416.2 = 0 then (if bt416.1 = ((rd_T36 x3 x5).f0) then (galleylaw22_WordsToAndFro.l0 k x0 x3 bt416.1 (wrap64 (x5 + 1))) else (some false)) else (some false))))) else (none)) else ((galleylaw22_own.f x0).bind fun t419 => ((words_Next.f k t419 x4).bind fun bt422 => (if bt422.2 = 0 then (galleylaw22_WordsToAndFro.j1 k x0 x3 (bt422.1 != (x0.length : Int))) else (galleylaw22_WordsToAndFro.j1 k x0 x3 true))))
def galleylaw22_WordsToAndFro.j1 : Nat → List Int → List (S36) → Bool → Option (Bool)
 | 0, _, _, _ => none
 | k + 1, x0, x3, x65 => if x65 = true then (some false) else (galleylaw22_WordsToAndFro.l1 k x0 x3 (x0.length : Int) (wrap64 ((x3.length : Int) - 1)))
def galleylaw22_WordsToAndFro.l1 : Nat → List Int → List (S36) → Int → Int → Option (Bool)
 | 0, _, _, _, _ => none
 | k + 1, x0, x3, x4, x10 => if x10 ≥ 0 then (if 0 ≤ x10 then (if x10 < (x3.length : Int) then (if ((rd_T36 x3 x10).f0) ≥ x4 then (some false) else ((galleylaw22_own.f x0).bind fun t430 => ((words_Prev.f k t430 x4).bind fun bt433 => (if bt433.2 = 0 then (if bt433.1 = ((rd_T36 x3 x10).f0) then (galleylaw22_WordsToAndFro.l1 k x0 x3 bt433.1 (wrap64 (x10 - 1))) else (some false)) else (some false))))) else (none)) else (none)) else ((galleylaw22_own.f x0).bind fun t424 => ((words_Prev.f k t424 x4).bind fun bt427 => (if bt427.2 = 0 then (some (bt427.1 == 0)) else (some false))))
end
def galleylaw22_WordsToAndFro.f (k : Nat) (l0 : List Int) : Option (Bool) := (galleylaw22_wakes.f).bind fun t405 => (if t405 = true then ((galleylaw22_own.f l0).bind fun t406 => ((words_All.f k t406).bind fun t409 => (galleylaw22_WordsToAndFro.l0 k l0 t409 0 0))) else (some false))
set_option maxHeartbeats 8000000 in
set_option maxRecDepth 100000 in
theorem galleylaw22_WordsToAndFro.calls (k : Nat) (A0 : Option Addr) (c0 : Nat) (l0 : List Int) (r : Bool) (w : World) (hr0 : Kd.C (Kd.int .u8) w A0 l0.length l0) (hc0 : l0.length ≤ c0) (hL : LaidBad w) (h : galleylaw22_WordsToAndFro.f k l0 = some r) :
  Calls Tryd.prog 10 #[.slice A0 l0.length c0] w fun e w' => e = .returned (.bool r) ∧ Below w.heap.size w w' := by
 have HR0 := Aside0.mk hr0
 have HC0 := Aside0.mk hc0
 clear hr0 hc0
 have HB := Aside0.mk (Below.refl w.heap.size w)
 have HLB := Aside0.mk hL
 clear hL
 have H : ((galleylaw22_wakes.f).bind fun t405 => (if t405 = true then ((galleylaw22_own.f l0).bind fun t406 => ((words_All.f k t406).bind fun t409 => (galleylaw22_WordsToAndFro.l0 k l0 t409 0 0))) else (some false))) = some r := h
 clear h
 replace H := Option.bind_eq_some_iff.mp H
 obtain ⟨t405, A20, H⟩ := H
 replace H : (if t405 = true then ((galleylaw22_own.f l0).bind fun t406 => ((words_All.f k t406).bind fun t409 => (galleylaw22_WordsToAndFro.l0 k l0 t409 0 0))) else (some false)) = some r := H
 have A2 := Aside0.mk A20
 clear A20
 by_cases c3 : t405 = true
 ·subst c3
  have H1 : ((galleylaw22_own.f l0).bind fun t406 => ((words_All.f k t406).bind fun t409 => (galleylaw22_WordsToAndFro.l0 k l0 t409 0 0))) = some r := by rw [if_pos rfl] at H; exact H
  clear H
  have H := H1
  clear H1
  replace H := Option.bind_eq_some_iff.mp H
  obtain ⟨t406, A40, H⟩ := H
  replace H : ((words_All.f k t406).bind fun t409 => (galleylaw22_WordsToAndFro.l0 k l0 t409 0 0)) = some r := H
  have A4 := Aside0.mk A40
  clear A40
  replace H := Option.bind_eq_some_iff.mp H
  obtain ⟨t409, A50, H⟩ := H
  replace H : (galleylaw22_WordsToAndFro.l0 k l0 t409 0 0) = some r := H
  have A5 := Aside0.mk A50
  clear A50
  have H' := Aside0.mk H
  clear H
  go_enter Tryd.func10, Tryd.ntmps10
  go_wp2_with (first | ((with_reducible refine gate_callee (f := 13) rfl ?_); refine goesL_ (some 15) rfl rfl Tryd.func13 (by kernel_rfl) rfl #[] rfl (by (try simp only [List.map_toArray, List.map_cons, List.map_nil]); first | done | rfl | (simp only [List.length_drop, List.length_take]; rfl)) ?_; (with_reducible refine (galleylaw22_wakes.calls  true _ ?side1 A2.out).mono ?_); (case side1 => exact laid_below HLB.out (by repeat (first | (with_reducible first | exact HB.out | apply below_alloc | apply pw_below_drewN | apply below_drew1) | exact HB.out))); rintro e w6 ⟨rfl, hb⟩; refine ⟨_, rfl, ?_⟩; have n0_ := Aside0.mk (below_step (by repeat (first | (with_reducible first | exact HB.out | apply below_alloc | apply pw_below_drewN | apply below_drew1) | exact HB.out)) hb); clear HB; have HB := n0_; clear n0_; (try clear hb); (try clear hb2); (try clear hk); (try clear hi)) | ((with_reducible refine gate_callee (f := 18) rfl ?_); refine goesL_ (some 18) rfl rfl Tryd.func18 (by kernel_rfl) rfl #[.slice A0 l0.length c0] rfl (by (try simp only [List.map_toArray, List.map_cons, List.map_nil]); first | done | rfl | (simp only [List.length_drop, List.length_take]; rfl)) ?_; (with_reducible refine (galleylaw22_own.calls _ _ l0 t406 _ ?side1 ?side2 A4.out).mono ?_); (case side1 => repeat (first | exact (Kd.C_below HR0.out HB.out) | (with_reducible refine Kd.C_alloc ?_ _) | (with_reducible refine Kd.C_drewN ?_ _) | (with_reducible refine Kd.C_drew ?_))); (case side2 => exact HC0.out); rintro e w7 ⟨v407, rfl, ho0, hb⟩; refine ⟨_, rfl, ?_⟩; have n0_ := Aside0.mk (Kd.R_lower ho0 (below_size (by repeat (first | (with_reducible first | exact HB.out | apply below_alloc | apply pw_below_drewN | apply below_drew1) | exact HB.out)))); have n1_ := Aside0.mk (below_step (by repeat (first | (with_reducible first | exact HB.out | apply below_alloc | apply pw_below_drewN | apply below_drew1) | exact HB.out)) hb); clear HB; have HO408 := n0_; have HB := n1_; clear n0_ n1_; (try clear hb); (try clear hb2); (try clear hk); (try clear hi); (try clear ho0); obtain ⟨Ao8, co8, eo8⟩ := Kd.R_slice HO408.out; subst eo8) | ((with_reducible refine gate_callee (f := 17) rfl ?_); refine goesL_ (some 19) rfl rfl Tryd.func17 (by kernel_rfl) rfl #[.slice Ao8 t406.length co8] rfl (by (try simp only [List.map_toArray, List.map_cons, List.map_nil]); first | done | rfl | (simp only [List.length_drop, List.length_take]; rfl)) ?_; (with_reducible refine (words_All.calls k _ _ t406 t409 _ ?side1 ?side2 ?side3 A5.out).mono ?_); (case side1 => repeat (first | exact (Kd.R_reads' HO408.out).2.2 | (with_reducible refine Kd.C_alloc ?_ _) | (with_reducible refine Kd.C_drewN ?_ _) | (with_reducible refine Kd.C_drew ?_))); (case side2 => exact (Kd.R_reads' HO408.out).2.1); (case side3 => exact laid_below HLB.out (by repeat (first | (with_reducible first | exact HB.out | apply below_alloc | apply pw_below_drewN | apply below_drew1) | exact HB.out))); rintro e w9 ⟨v410, rfl, ho0, hb⟩; refine ⟨_, rfl, ?_⟩; have n0_ := Aside0.mk (Kd.R_below (by (with_reducible repeat (first | apply Kd.R_alloc | apply Kd.R_drewN | apply Kd.R_drew)); exact HO408.out) hb); have n1_ := Aside0.mk (Kd.R_lower ho0 (below_size (by repeat (first | (with_reducible first | exact HB.out | apply below_alloc | apply pw_below_drewN | apply below_drew1) | exact HB.out)))); have n2_ := Aside0.mk (below_step (by repeat (first | (with_reducible first | exact HB.out | apply below_alloc | apply pw_below_drewN | apply below_drew1) | exact HB.out)) hb); clear HO408; clear HB; have HO408 := n0_; have HO411 := n1_; have HB := n2_; clear n0_ n1_ n2_; (try clear hb); (try clear hb2); (try clear hk); (try clear hi); (try clear ho0)))
  go_loopg [4, 5] k (fun kq v4 v5 w' => ∃ (x4_1 : Int) (x5_1 : Int), v4 = .int .i64 x4_1 ∧ v5 = .int .i64 x5_1 ∧ Aside0 (galleylaw22_WordsToAndFro.l0 kq l0 t409 x4_1 x5_1 = some r) ∧ Aside0 (kq ≤ k) ∧ Aside0 (Kd.R k36 36 w' w.heap.size (fun _ => True) v410 t409) ∧ Aside0 (Below w.heap.size w w'))
  case atStart => exact ⟨(0), (0), (by first | rfl | (simp; done) | (simp [*]; done)), (by first | rfl | (simp; done) | (simp [*]; done)), H', ⟨Nat.le_refl _⟩, ⟨by (with_reducible repeat (first | apply Kd.R_alloc | apply Kd.R_drewN | apply Kd.R_drew)); exact HO411.out⟩, ⟨by repeat (first | (with_reducible first | exact HB.out | apply below_alloc | apply pw_below_drewN | apply below_drew1) | exact HB.out)⟩⟩
  case round =>
   clear H'
   try clear c1
   try clear p2
   try clear c3
   obtain ⟨x4_1, x5_1, rfl, rfl, HA, HK1, HO_3, HB⟩ := hrel
   cases gk with
   | zero => exact absurd HA.out (by simp [galleylaw22_WordsToAndFro.l0])
   | succ k1 =>
    have H := HA.out
    clear HA
    simp only [galleylaw22_WordsToAndFro.l0] at H
    by_cases c10 : x5_1 < (t409.length : Int)
    ·rw [if_pos c10] at H
     have c10b0 : decide (x5_1 < (t409.length : Int)) = true := decide_eq_true c10
     clear c10
     by_cases c11 : 0 ≤ x5_1
     ·rw [if_pos c11] at H
      have c11b0 : decide (0 ≤ x5_1) = true := decide_eq_true c11
      clear c11
      by_cases c12 : ((rd_T36 t409 x5_1).f0) = 0
      ·rw [if_pos c12] at H
       have c12b0 : (((rd_T36 t409 x5_1).f0) == 0) = true := beq_iff_eq.mpr c12
       have c12b1 : (((rd_T36 t409 x5_1).f0) != 0) = false := bne_eq_false_iff_eq.mpr c12
       clear c12
       have H' := Aside0.mk H
       clear H
       obtain ⟨Ao13, co13, eo13⟩ := Kd.R_slice HO_3.out
       subst eo13
       have p412 : 0 ≤ (x5_1 : Int) := of_decide_eq_true (by first | (with_reducible assumption) | assumption)
       have q412 : x5_1 < (t409.length : Int) := of_decide_eq_true (by first | (with_reducible assumption) | assumption)
       obtain ⟨ad412, e412, hx412_0, hx412_1⟩ := at_T36 (Kd.R_reads' HO_3.out).2.2 x5_1 p412 q412
       cases e412
       replace p412 := eq_true p412
       replace q412 := eq_true q412
       go_wp2
       go_roundg k1
       case measure => have := HK1.out; omega
       case rel => exact ⟨(x4_1), (wrap64 (x5_1 + 1)), (by first | rfl | (simp; done) | (simp [*]; done)), (by first | rfl | (simp; done) | (simp [*]; done)), H', ⟨by have := HK1.out; omega⟩, ⟨by (with_reducible repeat (first | apply Kd.R_alloc | apply Kd.R_drewN | apply Kd.R_drew)); exact HO_3.out⟩, ⟨by repeat (first | (with_reducible first | exact HB.out | apply below_alloc | apply pw_below_drewN | apply below_drew1) | exact HB.out)⟩⟩
      ·rw [if_neg c12] at H
       have c12b0 : (((rd_T36 t409 x5_1).f0) == 0) = false := beq_eq_false_iff_ne.mpr c12
       have c12b1 : (((rd_T36 t409 x5_1).f0) != 0) = true := bne_iff_ne.mpr c12
       replace H := Option.bind_eq_some_iff.mp H
       obtain ⟨t413, A140, H⟩ := H
       replace H : ((words_Next.f k1 t413 x4_1).bind fun bt416 => (if bt416.2 = 0 then (if bt416.1 = ((rd_T36 t409 x5_1).f0) then (galleylaw22_WordsToAndFro.l0 k1 l0 t409 bt416.1 (wrap64 (x5_1 + 1))) else (some false)) else (some false))) = some r := H
       have A14 := Aside0.mk A140
       clear A140
       replace H := Option.bind_eq_some_iff.mp H
       obtain ⟨⟨t416, t417⟩, A150, H⟩ := H
       replace H : (if t417 = 0 then (if t416 = ((rd_T36 t409 x5_1).f0) then (galleylaw22_WordsToAndFro.l0 k1 l0 t409 t416 (wrap64 (x5_1 + 1))) else (some false)) else (some false)) = some r := H
       have A15 := Aside0.mk A150
       clear A150
       by_cases c16 : t417 = 0
       ·rw [if_pos c16] at H
        have c16b0 : (t417 == 0) = true := beq_iff_eq.mpr c16
        have c16b1 : (t417 != 0) = false := bne_eq_false_iff_eq.mpr c16
        clear c16
        by_cases c17 : t416 = ((rd_T36 t409 x5_1).f0)
        ·rw [if_pos c17] at H
         have c17b0 : (t416 == ((rd_T36 t409 x5_1).f0)) = true := beq_iff_eq.mpr c17
         have c17b1 : (t416 != ((rd_T36 t409 x5_1).f0)) = false := bne_eq_false_iff_eq.mpr c17
         clear c17
         have H' := Aside0.mk H
         clear H
         obtain ⟨Ao18, co18, eo18⟩ := Kd.R_slice HO_3.out
         subst eo18
         have p412 : 0 ≤ (x5_1 : Int) := of_decide_eq_true (by first | (with_reducible assumption) | assumption)
         have q412 : x5_1 < (t409.length : Int) := of_decide_eq_true (by first | (with_reducible assumption) | assumption)
         obtain ⟨ad412, e412, hx412_0, hx412_1⟩ := at_T36 (Kd.R_reads' HO_3.out).2.2 x5_1 p412 q412
         cases e412
         replace p412 := eq_true p412
         replace q412 := eq_true q412
         go_wp2_with (first | ((with_reducible refine gate_callee (f := 18) rfl ?_); refine goesL_ (some 34) rfl rfl Tryd.func18 (by kernel_rfl) rfl #[.slice A0 l0.length c0] rfl (by (try simp only [List.map_toArray, List.map_cons, List.map_nil]); first | done | rfl | (simp only [List.length_drop, List.length_take]; rfl)) ?_; (with_reducible refine (galleylaw22_own.calls _ _ l0 t413 _ ?side1 ?side2 A14.out).mono ?_); (case side1 => repeat (first | exact (Kd.C_below HR0.out HB.out) | (with_reducible refine Kd.C_alloc ?_ _) | (with_reducible refine Kd.C_drewN ?_ _) | (with_reducible refine Kd.C_drew ?_))); (case side2 => exact HC0.out); rintro e w19 ⟨v414, rfl, ho0, hb⟩; refine ⟨_, rfl, ?_⟩; have n0_ := Aside0.mk (Kd.R_below (by (with_reducible repeat (first | apply Kd.R_alloc | apply Kd.R_drewN | apply Kd.R_drew)); exact HO_3.out) hb); have n1_ := Aside0.mk (Kd.R_lower ho0 (below_size (by repeat (first | (with_reducible first | exact HB.out | apply below_alloc | apply pw_below_drewN | apply below_drew1) | exact HB.out)))); have n2_ := Aside0.mk (below_step (by repeat (first | (with_reducible first | exact HB.out | apply below_alloc | apply pw_below_drewN | apply below_drew1) | exact HB.out)) hb); clear HO_3; clear HB; have HO_3 := n0_; have HO415 := n1_; have HB := n2_; clear n0_ n1_ n2_; (try clear hb); (try clear hb2); (try clear hk); (try clear hi); (try clear ho0); obtain ⟨Ao20, co20, eo20⟩ := Kd.R_slice HO415.out; subst eo20) | ((with_reducible refine gate_callee (f := 22) rfl ?_); refine goesL_ (some 36) rfl rfl Tryd.func22 (by kernel_rfl) rfl #[.slice Ao20 t413.length co20, .int .i64 x4_1] rfl (by (try simp only [List.map_toArray, List.map_cons, List.map_nil]); first | done | rfl | (simp only [List.length_drop, List.length_take]; rfl)) ?_; (with_reducible refine (words_Next.calls k1 _ _ t413 x4_1 t416 t417 _ ?side1 ?side2 ?side3 A15.out).mono ?_); (case side1 => repeat (first | exact (Kd.R_reads' HO415.out).2.2 | (with_reducible refine Kd.C_alloc ?_ _) | (with_reducible refine Kd.C_drewN ?_ _) | (with_reducible refine Kd.C_drew ?_))); (case side2 => exact (Kd.R_reads' HO415.out).2.1); (case side3 => exact laid_below HLB.out (by repeat (first | (with_reducible first | exact HB.out | apply below_alloc | apply pw_below_drewN | apply below_drew1) | exact HB.out))); rintro e w21 ⟨rfl, hb⟩; refine ⟨_, rfl, ?_⟩; have n0_ := Aside0.mk (Kd.R_below (by (with_reducible repeat (first | apply Kd.R_alloc | apply Kd.R_drewN | apply Kd.R_drew)); exact HO_3.out) hb); have n1_ := Aside0.mk (Kd.R_below (by (with_reducible repeat (first | apply Kd.R_alloc | apply Kd.R_drewN | apply Kd.R_drew)); exact HO415.out) hb); have n2_ := Aside0.mk (below_step (by repeat (first | (with_reducible first | exact HB.out | apply below_alloc | apply pw_below_drewN | apply below_drew1) | exact HB.out)) hb); clear HO_3; clear HO415; clear HB; have HO_3 := n0_; have HO415 := n1_; have HB := n2_; clear n0_ n1_ n2_; (try clear hb); (try clear hb2); (try clear hk); (try clear hi); have p418 : 0 ≤ (x5_1 : Int) := of_decide_eq_true (by first | (with_reducible assumption) | assumption); have q418 : x5_1 < (t409.length : Int) := of_decide_eq_true (by first | (with_reducible assumption) | assumption); obtain ⟨ad418, e418, hx418_0, hx418_1⟩ := at_T36 (Kd.R_reads' HO_3.out).2.2 x5_1 p418 q418; obtain rfl : ad412 = ad418 := (by injection e418); replace p418 := eq_true p418; replace q418 := eq_true q418))
         go_roundg k1
         case measure => have := HK1.out; omega
         case rel => exact ⟨(t416), (wrap64 (x5_1 + 1)), (by first | rfl | (simp; done) | (simp [*]; done)), (by first | rfl | (simp; done) | (simp [*]; done)), H', ⟨by have := HK1.out; omega⟩, ⟨by (with_reducible repeat (first | apply Kd.R_alloc | apply Kd.R_drewN | apply Kd.R_drew)); exact HO_3.out⟩, ⟨by repeat (first | (with_reducible first | exact HB.out | apply below_alloc | apply pw_below_drewN | apply below_drew1) | exact HB.out)⟩⟩
        ·rw [if_neg c17] at H
         have c17b0 : (t416 == ((rd_T36 t409 x5_1).f0)) = false := beq_eq_false_iff_ne.mpr c17
         have c17b1 : (t416 != ((rd_T36 t409 x5_1).f0)) = true := bne_iff_ne.mpr c17
         obtain rfl := Option.some.inj H
         obtain ⟨Ao22, co22, eo22⟩ := Kd.R_slice HO_3.out
         subst eo22
         have p412 : 0 ≤ (x5_1 : Int) := of_decide_eq_true (by first | (with_reducible assumption) | assumption)
         have q412 : x5_1 < (t409.length : Int) := of_decide_eq_true (by first | (with_reducible assumption) | assumption)
         obtain ⟨ad412, e412, hx412_0, hx412_1⟩ := at_T36 (Kd.R_reads' HO_3.out).2.2 x5_1 p412 q412
         cases e412
         replace p412 := eq_true p412
         replace q412 := eq_true q412
         go_wp2_with (first | ((with_reducible refine gate_callee (f := 18) rfl ?_); refine goesL_ (some 34) rfl rfl Tryd.func18 (by kernel_rfl) rfl #[.slice A0 l0.length c0] rfl (by (try simp only [List.map_toArray, List.map_cons, List.map_nil]); first | done | rfl | (simp only [List.length_drop, List.length_take]; rfl)) ?_; (with_reducible refine (galleylaw22_own.calls _ _ l0 t413 _ ?side1 ?side2 A14.out).mono ?_); (case side1 => repeat (first | exact (Kd.C_below HR0.out HB.out) | (with_reducible refine Kd.C_alloc ?_ _) | (with_reducible refine Kd.C_drewN ?_ _) | (with_reducible refine Kd.C_drew ?_))); (case side2 => exact HC0.out); rintro e w23 ⟨v414, rfl, ho0, hb⟩; refine ⟨_, rfl, ?_⟩; have n0_ := Aside0.mk (Kd.R_below (by (with_reducible repeat (first | apply Kd.R_alloc | apply Kd.R_drewN | apply Kd.R_drew)); exact HO_3.out) hb); have n1_ := Aside0.mk (Kd.R_lower ho0 (below_size (by repeat (first | (with_reducible first | exact HB.out | apply below_alloc | apply pw_below_drewN | apply below_drew1) | exact HB.out)))); have n2_ := Aside0.mk (below_step (by repeat (first | (with_reducible first | exact HB.out | apply below_alloc | apply pw_below_drewN | apply below_drew1) | exact HB.out)) hb); clear HO_3; clear HB; have HO_3 := n0_; have HO415 := n1_; have HB := n2_; clear n0_ n1_ n2_; (try clear hb); (try clear hb2); (try clear hk); (try clear hi); (try clear ho0); obtain ⟨Ao24, co24, eo24⟩ := Kd.R_slice HO415.out; subst eo24) | ((with_reducible refine gate_callee (f := 22) rfl ?_); refine goesL_ (some 36) rfl rfl Tryd.func22 (by kernel_rfl) rfl #[.slice Ao24 t413.length co24, .int .i64 x4_1] rfl (by (try simp only [List.map_toArray, List.map_cons, List.map_nil]); first | done | rfl | (simp only [List.length_drop, List.length_take]; rfl)) ?_; (with_reducible refine (words_Next.calls k1 _ _ t413 x4_1 t416 t417 _ ?side1 ?side2 ?side3 A15.out).mono ?_); (case side1 => repeat (first | exact (Kd.R_reads' HO415.out).2.2 | (with_reducible refine Kd.C_alloc ?_ _) | (with_reducible refine Kd.C_drewN ?_ _) | (with_reducible refine Kd.C_drew ?_))); (case side2 => exact (Kd.R_reads' HO415.out).2.1); (case side3 => exact laid_below HLB.out (by repeat (first | (with_reducible first | exact HB.out | apply below_alloc | apply pw_below_drewN | apply below_drew1) | exact HB.out))); rintro e w25 ⟨rfl, hb⟩; refine ⟨_, rfl, ?_⟩; have n0_ := Aside0.mk (Kd.R_below (by (with_reducible repeat (first | apply Kd.R_alloc | apply Kd.R_drewN | apply Kd.R_drew)); exact HO_3.out) hb); have n1_ := Aside0.mk (Kd.R_below (by (with_reducible repeat (first | apply Kd.R_alloc | apply Kd.R_drewN | apply Kd.R_drew)); exact HO415.out) hb); have n2_ := Aside0.mk (below_step (by repeat (first | (with_reducible first | exact HB.out | apply below_alloc | apply pw_below_drewN | apply below_drew1) | exact HB.out)) hb); clear HO_3; clear HO415; clear HB; have HO_3 := n0_; have HO415 := n1_; have HB := n2_; clear n0_ n1_ n2_; (try clear hb); (try clear hb2); (try clear hk); (try clear hi); have p418 : 0 ≤ (x5_1 : Int) := of_decide_eq_true (by first | (with_reducible assumption) | assumption); have q418 : x5_1 < (t409.length : Int) := of_decide_eq_true (by first | (with_reducible assumption) | assumption); obtain ⟨ad418, e418, hx418_0, hx418_1⟩ := at_T36 (Kd.R_reads' HO_3.out).2.2 x5_1 p418 q418; obtain rfl : ad412 = ad418 := (by injection e418); replace p418 := eq_true p418; replace q418 := eq_true q418))
         go_ret
         exact ⟨by first | rfl | (simp [errW_none, errW_some] <;> rfl) | (simp [*, errW_none, errW_some] <;> rfl), by repeat (first | (with_reducible first | exact HB.out | apply below_alloc | apply pw_below_drewN | apply below_drew1) | exact HB.out)⟩
       ·rw [if_neg c16] at H
        have c16b0 : (t417 == 0) = false := beq_eq_false_iff_ne.mpr c16
        have c16b1 : (t417 != 0) = true := bne_iff_ne.mpr c16
        obtain rfl := Option.some.inj H
        obtain ⟨Ao26, co26, eo26⟩ := Kd.R_slice HO_3.out
        subst eo26
        have p412 : 0 ≤ (x5_1 : Int) := of_decide_eq_true (by first | (with_reducible assumption) | assumption)
        have q412 : x5_1 < (t409.length : Int) := of_decide_eq_true (by first | (with_reducible assumption) | assumption)
        obtain ⟨ad412, e412, hx412_0, hx412_1⟩ := at_T36 (Kd.R_reads' HO_3.out).2.2 x5_1 p412 q412
        cases e412
        replace p412 := eq_true p412
        replace q412 := eq_true q412
        go_wp2_with (first | ((with_reducible refine gate_callee (f := 18) rfl ?_); refine goesL_ (some 34) rfl rfl Tryd.func18 (by kernel_rfl) rfl #[.slice A0 l0.length c0] rfl (by (try simp only [List.map_toArray, List.map_cons, List.map_nil]); first | done | rfl | (simp only [List.length_drop, List.length_take]; rfl)) ?_; (with_reducible refine (galleylaw22_own.calls _ _ l0 t413 _ ?side1 ?side2 A14.out).mono ?_); (case side1 => repeat (first | exact (Kd.C_below HR0.out HB.out) | (with_reducible refine Kd.C_alloc ?_ _) | (with_reducible refine Kd.C_drewN ?_ _) | (with_reducible refine Kd.C_drew ?_))); (case side2 => exact HC0.out); rintro e w27 ⟨v414, rfl, ho0, hb⟩; refine ⟨_, rfl, ?_⟩; have n0_ := Aside0.mk (Kd.R_below (by (with_reducible repeat (first | apply Kd.R_alloc | apply Kd.R_drewN | apply Kd.R_drew)); exact HO_3.out) hb); have n1_ := Aside0.mk (Kd.R_lower ho0 (below_size (by repeat (first | (with_reducible first | exact HB.out | apply below_alloc | apply pw_below_drewN | apply below_drew1) | exact HB.out)))); have n2_ := Aside0.mk (below_step (by repeat (first | (with_reducible first | exact HB.out | apply below_alloc | apply pw_below_drewN | apply below_drew1) | exact HB.out)) hb); clear HO_3; clear HB; have HO_3 := n0_; have HO415 := n1_; have HB := n2_; clear n0_ n1_ n2_; (try clear hb); (try clear hb2); (try clear hk); (try clear hi); (try clear ho0); obtain ⟨Ao28, co28, eo28⟩ := Kd.R_slice HO415.out; subst eo28) | ((with_reducible refine gate_callee (f := 22) rfl ?_); refine goesL_ (some 36) rfl rfl Tryd.func22 (by kernel_rfl) rfl #[.slice Ao28 t413.length co28, .int .i64 x4_1] rfl (by (try simp only [List.map_toArray, List.map_cons, List.map_nil]); first | done | rfl | (simp only [List.length_drop, List.length_take]; rfl)) ?_; (with_reducible refine (words_Next.calls k1 _ _ t413 x4_1 t416 t417 _ ?side1 ?side2 ?side3 A15.out).mono ?_); (case side1 => repeat (first | exact (Kd.R_reads' HO415.out).2.2 | (with_reducible refine Kd.C_alloc ?_ _) | (with_reducible refine Kd.C_drewN ?_ _) | (with_reducible refine Kd.C_drew ?_))); (case side2 => exact (Kd.R_reads' HO415.out).2.1); (case side3 => exact laid_below HLB.out (by repeat (first | (with_reducible first | exact HB.out | apply below_alloc | apply pw_below_drewN | apply below_drew1) | exact HB.out))); rintro e w29 ⟨rfl, hb⟩; refine ⟨_, rfl, ?_⟩; have n0_ := Aside0.mk (Kd.R_below (by (with_reducible repeat (first | apply Kd.R_alloc | apply Kd.R_drewN | apply Kd.R_drew)); exact HO_3.out) hb); have n1_ := Aside0.mk (Kd.R_below (by (with_reducible repeat (first | apply Kd.R_alloc | apply Kd.R_drewN | apply Kd.R_drew)); exact HO415.out) hb); have n2_ := Aside0.mk (below_step (by repeat (first | (with_reducible first | exact HB.out | apply below_alloc | apply pw_below_drewN | apply below_drew1) | exact HB.out)) hb); clear HO_3; clear HO415; clear HB; have HO_3 := n0_; have HO415 := n1_; have HB := n2_; clear n0_ n1_ n2_; (try clear hb); (try clear hb2); (try clear hk); (try clear hi)))
        go_ret
        exact ⟨by first | rfl | (simp [errW_none, errW_some] <;> rfl) | (simp [*, errW_none, errW_some] <;> rfl), by repeat (first | (with_reducible first | exact HB.out | apply below_alloc | apply pw_below_drewN | apply below_drew1) | exact HB.out)⟩
     ·rw [if_neg c11] at H
      exact absurd H (by simp)
    ·rw [if_neg c10] at H
     have c10b0 : decide (x5_1 < (t409.length : Int)) = false := decide_eq_false c10
     clear c10
     replace H := Option.bind_eq_some_iff.mp H
     obtain ⟨t419, A300, H⟩ := H
     replace H : ((words_Next.f k1 t419 x4_1).bind fun bt422 => (if bt422.2 = 0 then (galleylaw22_WordsToAndFro.j1 k1 l0 t409 (bt422.1 != (l0.length : Int))) else (galleylaw22_WordsToAndFro.j1 k1 l0 t409 true))) = some r := H
     have A30 := Aside0.mk A300
     clear A300
     replace H := Option.bind_eq_some_iff.mp H
     obtain ⟨⟨t422, t423⟩, A310, H⟩ := H
     replace H : (if t423 = 0 then (galleylaw22_WordsToAndFro.j1 k1 l0 t409 (t422 != (l0.length : Int))) else (galleylaw22_WordsToAndFro.j1 k1 l0 t409 true)) = some r := H
     have A31 := Aside0.mk A310
     clear A310
     have HC32 := Aside0.mk H
     clear H
     obtain ⟨Ao33, co33, eo33⟩ := Kd.R_slice HO_3.out
     subst eo33
     go_upto_region 14 with (first | ((with_reducible refine gate_callee (f := 18) rfl ?_); refine goesL_ (some 53) rfl rfl Tryd.func18 (by kernel_rfl) rfl #[.slice A0 l0.length c0] rfl (by (try simp only [List.map_toArray, List.map_cons, List.map_nil]); first | done | rfl | (simp only [List.length_drop, List.length_take]; rfl)) ?_; (with_reducible refine (galleylaw22_own.calls _ _ l0 t419 _ ?side1 ?side2 A30.out).mono ?_); (case side1 => repeat (first | exact (Kd.C_below HR0.out HB.out) | (with_reducible refine Kd.C_alloc ?_ _) | (with_reducible refine Kd.C_drewN ?_ _) | (with_reducible refine Kd.C_drew ?_))); (case side2 => exact HC0.out); rintro e w34 ⟨v420, rfl, ho0, hb⟩; refine ⟨_, rfl, ?_⟩; have n0_ := Aside0.mk (Kd.R_below (by (with_reducible repeat (first | apply Kd.R_alloc | apply Kd.R_drewN | apply Kd.R_drew)); exact HO_3.out) hb); have n1_ := Aside0.mk (Kd.R_lower ho0 (below_size (by repeat (first | (with_reducible first | exact HB.out | apply below_alloc | apply pw_below_drewN | apply below_drew1) | exact HB.out)))); have n2_ := Aside0.mk (below_step (by repeat (first | (with_reducible first | exact HB.out | apply below_alloc | apply pw_below_drewN | apply below_drew1) | exact HB.out)) hb); clear HO_3; clear HB; have HO_3 := n0_; have HO421 := n1_; have HB := n2_; clear n0_ n1_ n2_; (try clear hb); (try clear hb2); (try clear hk); (try clear hi); (try clear ho0); obtain ⟨Ao35, co35, eo35⟩ := Kd.R_slice HO421.out; subst eo35) | ((with_reducible refine gate_callee (f := 22) rfl ?_); refine goesL_ (some 55) rfl rfl Tryd.func22 (by kernel_rfl) rfl #[.slice Ao35 t419.length co35, .int .i64 x4_1] rfl (by (try simp only [List.map_toArray, List.map_cons, List.map_nil]); first | done | rfl | (simp only [List.length_drop, List.length_take]; rfl)) ?_; (with_reducible refine (words_Next.calls k1 _ _ t419 x4_1 t422 t423 _ ?side1 ?side2 ?side3 A31.out).mono ?_); (case side1 => repeat (first | exact (Kd.R_reads' HO421.out).2.2 | (with_reducible refine Kd.C_alloc ?_ _) | (with_reducible refine Kd.C_drewN ?_ _) | (with_reducible refine Kd.C_drew ?_))); (case side2 => exact (Kd.R_reads' HO421.out).2.1); (case side3 => exact laid_below HLB.out (by repeat (first | (with_reducible first | exact HB.out | apply below_alloc | apply pw_below_drewN | apply below_drew1) | exact HB.out))); rintro e w36 ⟨rfl, hb⟩; refine ⟨_, rfl, ?_⟩; have n0_ := Aside0.mk (Kd.R_below (by (with_reducible repeat (first | apply Kd.R_alloc | apply Kd.R_drewN | apply Kd.R_drew)); exact HO_3.out) hb); have n1_ := Aside0.mk (Kd.R_below (by (with_reducible repeat (first | apply Kd.R_alloc | apply Kd.R_drewN | apply Kd.R_drew)); exact HO421.out) hb); have n2_ := Aside0.mk (below_step (by repeat (first | (with_reducible first | exact HB.out | apply below_alloc | apply pw_below_drewN | apply below_drew1) | exact HB.out)) hb); clear HO_3; clear HO421; clear HB; have HO_3 := n0_; have HO421 := n1_; have HB := n2_; clear n0_ n1_ n2_; (try clear hb); (try clear hb2); (try clear hk); (try clear hi)))
     (try simp only [Act.put, List.setIfInBounds_toArray, List.set_cons_zero, List.set_cons_succ])
     go_cut [65] (fun v65 wc => ∃ (kq : Nat) (x65_31 : Bool), v65 = .bool x65_31 ∧ Aside0 (galleylaw22_WordsToAndFro.j1 kq l0 t409 x65_31 = some r) ∧ Aside0 (kq ≤ k1) ∧ Aside0 (Kd.R k36 36 wc w.heap.size (fun _ => True) (.slice Ao33 t409.length co33) t409) ∧ Aside0 (Below w.heap.size w wc))
     case first =>
      have H := HC32.out
      clear HC32
      by_cases c37 : t423 = 0
      ·rw [if_pos c37] at H
       have c37b0 : (t423 == 0) = true := beq_iff_eq.mpr c37
       have c37b1 : (t423 != 0) = false := bne_eq_false_iff_eq.mpr c37
       clear c37
       (first | rw [c37b0] | (simp only [i64_w, i32_w]; rw [c37b0]) | skip)
       have H' := Aside0.mk H
       clear H
       go_wp2
       go_meet
       case rel => exact ⟨_, ((t422 != (l0.length : Int))), (by first | rfl | (simp; done) | (simp [*]; done)), H', ⟨by have := HK1.out; first | omega | exact Nat.le_refl _⟩, ⟨by (with_reducible repeat (first | apply Kd.R_alloc | apply Kd.R_drewN | apply Kd.R_drew)); exact HO_3.out⟩, ⟨by repeat (first | (with_reducible first | exact HB.out | apply below_alloc | apply pw_below_drewN | apply below_drew1) | exact HB.out)⟩⟩
      ·rw [if_neg c37] at H
       have c37b0 : (t423 == 0) = false := beq_eq_false_iff_ne.mpr c37
       have c37b1 : (t423 != 0) = true := bne_iff_ne.mpr c37
       (first | rw [c37b0] | (simp only [i64_w, i32_w]; rw [c37b0]) | skip)
       have H' := Aside0.mk H
       clear H
       go_wp2
       go_meet
       case rel => exact ⟨_, (true), (by first | rfl | (simp; done) | (simp [*]; done)), H', ⟨by have := HK1.out; first | omega | exact Nat.le_refl _⟩, ⟨by (with_reducible repeat (first | apply Kd.R_alloc | apply Kd.R_drewN | apply Kd.R_drew)); exact HO_3.out⟩, ⟨by repeat (first | (with_reducible first | exact HB.out | apply below_alloc | apply pw_below_drewN | apply below_drew1) | exact HB.out)⟩⟩
     case rest =>
      clear HC32
      try clear c1
      try clear c2
      try clear p2
      try clear c3
      try clear p4
      try clear q4
      try clear hx4
      try clear p6
      try clear c10
      try clear c10b0
      try clear c11
      try clear c11b0
      try clear c12
      try clear c12b0
      try clear c12b1
      try clear c13
      try clear c16
      try clear c16b0
      try clear c16b1
      try clear c17
      try clear c17b0
      try clear c17b1
      try clear c18
      try clear c22
      try clear c37
      try clear c37b0
      try clear c37b1
      try clear hx412_0
      try clear hx412_1
      try clear hx418_0
      try clear hx418_1
      try clear p2
      try clear p412
      try clear p418
      try clear q412
      try clear q418
      obtain ⟨kq, x65_31, rfl, HA, HJ31, HO_3, HB⟩ := hcut
      cases kq with
      | zero => exact absurd HA.out (by simp [galleylaw22_WordsToAndFro.j1])
      | succ kj31 =>
       have H := HA.out
       clear HA
       simp only [galleylaw22_WordsToAndFro.j1] at H
       by_cases c38 : x65_31 = true
       ·subst c38
        have H1 : (some false) = some r := by rw [if_pos rfl] at H; exact H
        clear H
        have H := H1
        clear H1
        obtain rfl := Option.some.inj H
        go_wp2
        go_ret
        exact ⟨by first | rfl | (simp [errW_none, errW_some] <;> rfl) | (simp [*, errW_none, errW_some] <;> rfl), by repeat (first | (with_reducible first | exact HB.out | apply below_alloc | apply pw_below_drewN | apply below_drew1) | exact HB.out)⟩
       ·replace c38 := Bool.eq_false_iff.mpr c38
        subst c38
        have H1 : (galleylaw22_WordsToAndFro.l1 kj31 l0 t409 (l0.length : Int) (wrap64 ((t409.length : Int) - 1))) = some r := by rw [if_neg (show ¬ (false = true) by decide)] at H; exact H
        clear H
        have H := H1
        clear H1
        have H' := Aside0.mk H
        clear H
        go_wp2
        go_loopg [4, 10] kj31 (fun kq v4 v10 w' => ∃ (x4_3 : Int) (x10_3 : Int), v4 = .int .i64 x4_3 ∧ v10 = .int .i64 x10_3 ∧ Aside0 (galleylaw22_WordsToAndFro.l1 kq l0 t409 x4_3 x10_3 = some r) ∧ Aside0 (kq ≤ kj31) ∧ Aside0 (Kd.R k36 36 w' w.heap.size (fun _ => True) (.slice Ao33 t409.length co33) t409) ∧ Aside0 (Below w.heap.size w w'))
        case atStart => exact ⟨((l0.length : Int)), (wrap64 ((t409.length : Int) - 1)), (by first | rfl | (simp; done) | (simp [*]; done)), (by first | rfl | (simp; done) | (simp [*]; done)), H', ⟨Nat.le_refl _⟩, ⟨by (with_reducible repeat (first | apply Kd.R_alloc | apply Kd.R_drewN | apply Kd.R_drew)); exact HO_3.out⟩, ⟨by repeat (first | (with_reducible first | exact HB.out | apply below_alloc | apply pw_below_drewN | apply below_drew1) | exact HB.out)⟩⟩
        case round =>
         clear H'
         try clear c1
         try clear c2
         try clear p2
         try clear c3
         try clear p4
         try clear q4
         try clear hx4
         try clear p6
         try clear c10
         try clear c10b0
         try clear c11
         try clear c11b0
         try clear c12
         try clear c12b0
         try clear c12b1
         try clear c13
         try clear c16
         try clear c16b0
         try clear c16b1
         try clear c17
         try clear c17b0
         try clear c17b1
         try clear c18
         try clear c22
         try clear c37
         try clear c37b0
         try clear c37b1
         try clear c38
         try clear hx412_0
         try clear hx412_1
         try clear hx418_0
         try clear hx418_1
         try clear p2
         try clear p4
         try clear p412
         try clear p418
         try clear p6
         try clear q4
         try clear q412
         try clear q418
         obtain ⟨x4_3, x10_3, rfl, rfl, HA, HK3, HO_3, HB⟩ := hrel
         cases gk with
         | zero => exact absurd HA.out (by simp [galleylaw22_WordsToAndFro.l1])
         | succ k3 =>
          have H := HA.out
          clear HA
          simp only [galleylaw22_WordsToAndFro.l1] at H
          by_cases c39 : x10_3 ≥ 0
          ·rw [if_pos c39] at H
           have c39b0 : decide (0 ≤ x10_3) = true := decide_eq_true c39
           clear c39
           by_cases c40 : 0 ≤ x10_3
           ·rw [if_pos c40] at H
            have c40b0 : decide (0 ≤ x10_3) = true := decide_eq_true c40
            clear c40
            by_cases c41 : x10_3 < (t409.length : Int)
            ·rw [if_pos c41] at H
             have c41b0 : decide (x10_3 < (t409.length : Int)) = true := decide_eq_true c41
             clear c41
             by_cases c42 : ((rd_T36 t409 x10_3).f0) ≥ x4_3
             ·rw [if_pos c42] at H
              have c42b0 : decide (x4_3 ≤ ((rd_T36 t409 x10_3).f0)) = true := decide_eq_true c42
              clear c42
              obtain rfl := Option.some.inj H
              have p429 : 0 ≤ (x10_3 : Int) := of_decide_eq_true (by first | (with_reducible assumption) | assumption)
              have q429 : x10_3 < (t409.length : Int) := of_decide_eq_true (by first | (with_reducible assumption) | assumption)
              obtain ⟨ad429, e429, hx429_0, hx429_1⟩ := at_T36 (Kd.R_reads' HO_3.out).2.2 x10_3 p429 q429
              cases e429
              replace p429 := eq_true p429
              replace q429 := eq_true q429
              go_wp2
              go_ret
              exact ⟨by first | rfl | (simp [errW_none, errW_some] <;> rfl) | (simp [*, errW_none, errW_some] <;> rfl), by repeat (first | (with_reducible first | exact HB.out | apply below_alloc | apply pw_below_drewN | apply below_drew1) | exact HB.out)⟩
             ·rw [if_neg c42] at H
              have c42b0 : decide (x4_3 ≤ ((rd_T36 t409 x10_3).f0)) = false := decide_eq_false c42
              clear c42
              replace H := Option.bind_eq_some_iff.mp H
              obtain ⟨t430, A430, H⟩ := H
              replace H : ((words_Prev.f k3 t430 x4_3).bind fun bt433 => (if bt433.2 = 0 then (if bt433.1 = ((rd_T36 t409 x10_3).f0) then (galleylaw22_WordsToAndFro.l1 k3 l0 t409 bt433.1 (wrap64 (x10_3 - 1))) else (some false)) else (some false))) = some r := H
              have A43 := Aside0.mk A430
              clear A430
              replace H := Option.bind_eq_some_iff.mp H
              obtain ⟨⟨t433, t434⟩, A440, H⟩ := H
              replace H : (if t434 = 0 then (if t433 = ((rd_T36 t409 x10_3).f0) then (galleylaw22_WordsToAndFro.l1 k3 l0 t409 t433 (wrap64 (x10_3 - 1))) else (some false)) else (some false)) = some r := H
              have A44 := Aside0.mk A440
              clear A440
              by_cases c45 : t434 = 0
              ·rw [if_pos c45] at H
               have c45b0 : (t434 == 0) = true := beq_iff_eq.mpr c45
               have c45b1 : (t434 != 0) = false := bne_eq_false_iff_eq.mpr c45
               clear c45
               by_cases c46 : t433 = ((rd_T36 t409 x10_3).f0)
               ·rw [if_pos c46] at H
                have c46b0 : (t433 == ((rd_T36 t409 x10_3).f0)) = true := beq_iff_eq.mpr c46
                have c46b1 : (t433 != ((rd_T36 t409 x10_3).f0)) = false := bne_eq_false_iff_eq.mpr c46
                clear c46
                have H' := Aside0.mk H
                clear H
                have p429 : 0 ≤ (x10_3 : Int) := of_decide_eq_true (by first | (with_reducible assumption) | assumption)
                have q429 : x10_3 < (t409.length : Int) := of_decide_eq_true (by first | (with_reducible assumption) | assumption)
                obtain ⟨ad429, e429, hx429_0, hx429_1⟩ := at_T36 (Kd.R_reads' HO_3.out).2.2 x10_3 p429 q429
                cases e429
                replace p429 := eq_true p429
                replace q429 := eq_true q429
                go_wp2_with (first | ((with_reducible refine gate_callee (f := 18) rfl ?_); refine goesL_ (some 84) rfl rfl Tryd.func18 (by kernel_rfl) rfl #[.slice A0 l0.length c0] rfl (by (try simp only [List.map_toArray, List.map_cons, List.map_nil]); first | done | rfl | (simp only [List.length_drop, List.length_take]; rfl)) ?_; (with_reducible refine (galleylaw22_own.calls _ _ l0 t430 _ ?side1 ?side2 A43.out).mono ?_); (case side1 => repeat (first | exact (Kd.C_below HR0.out HB.out) | (with_reducible refine Kd.C_alloc ?_ _) | (with_reducible refine Kd.C_drewN ?_ _) | (with_reducible refine Kd.C_drew ?_))); (case side2 => exact HC0.out); rintro e w47 ⟨v431, rfl, ho0, hb⟩; refine ⟨_, rfl, ?_⟩; have n0_ := Aside0.mk (Kd.R_below (by (with_reducible repeat (first | apply Kd.R_alloc | apply Kd.R_drewN | apply Kd.R_drew)); exact HO_3.out) hb); have n1_ := Aside0.mk (Kd.R_lower ho0 (below_size (by repeat (first | (with_reducible first | exact HB.out | apply below_alloc | apply pw_below_drewN | apply below_drew1) | exact HB.out)))); have n2_ := Aside0.mk (below_step (by repeat (first | (with_reducible first | exact HB.out | apply below_alloc | apply pw_below_drewN | apply below_drew1) | exact HB.out)) hb); clear HO_3; clear HB; have HO_3 := n0_; have HO432 := n1_; have HB := n2_; clear n0_ n1_ n2_; (try clear hb); (try clear hb2); (try clear hk); (try clear hi); (try clear ho0); obtain ⟨Ao48, co48, eo48⟩ := Kd.R_slice HO432.out; subst eo48) | ((with_reducible refine gate_callee (f := 24) rfl ?_); refine goesL_ (some 86) rfl rfl Tryd.func24 (by kernel_rfl) rfl #[.slice Ao48 t430.length co48, .int .i64 x4_3] rfl (by (try simp only [List.map_toArray, List.map_cons, List.map_nil]); first | done | rfl | (simp only [List.length_drop, List.length_take]; rfl)) ?_; (with_reducible refine (words_Prev.calls k3 _ _ t430 x4_3 t433 t434 _ ?side1 ?side2 ?side3 A44.out).mono ?_); (case side1 => repeat (first | exact (Kd.R_reads' HO432.out).2.2 | (with_reducible refine Kd.C_alloc ?_ _) | (with_reducible refine Kd.C_drewN ?_ _) | (with_reducible refine Kd.C_drew ?_))); (case side2 => exact (Kd.R_reads' HO432.out).2.1); (case side3 => exact laid_below HLB.out (by repeat (first | (with_reducible first | exact HB.out | apply below_alloc | apply pw_below_drewN | apply below_drew1) | exact HB.out))); rintro e w49 ⟨rfl, hb⟩; refine ⟨_, rfl, ?_⟩; have n0_ := Aside0.mk (Kd.R_below (by (with_reducible repeat (first | apply Kd.R_alloc | apply Kd.R_drewN | apply Kd.R_drew)); exact HO_3.out) hb); have n1_ := Aside0.mk (Kd.R_below (by (with_reducible repeat (first | apply Kd.R_alloc | apply Kd.R_drewN | apply Kd.R_drew)); exact HO432.out) hb); have n2_ := Aside0.mk (below_step (by repeat (first | (with_reducible first | exact HB.out | apply below_alloc | apply pw_below_drewN | apply below_drew1) | exact HB.out)) hb); clear HO_3; clear HO432; clear HB; have HO_3 := n0_; have HO432 := n1_; have HB := n2_; clear n0_ n1_ n2_; (try clear hb); (try clear hb2); (try clear hk); (try clear hi); have p435 : 0 ≤ (x10_3 : Int) := of_decide_eq_true (by first | (with_reducible assumption) | assumption); have q435 : x10_3 < (t409.length : Int) := of_decide_eq_true (by first | (with_reducible assumption) | assumption); obtain ⟨ad435, e435, hx435_0, hx435_1⟩ := at_T36 (Kd.R_reads' HO_3.out).2.2 x10_3 p435 q435; obtain rfl : ad429 = ad435 := (by injection e435); replace p435 := eq_true p435; replace q435 := eq_true q435))
                go_roundg k3
                case measure => have := HK1.out; have := HJ31.out; have := HK3.out; omega
                case rel => exact ⟨(t433), (wrap64 (x10_3 - 1)), (by first | rfl | (simp; done) | (simp [*]; done)), (by first | rfl | (simp; done) | (simp [*]; done)), H', ⟨by have := HK1.out; have := HJ31.out; have := HK3.out; omega⟩, ⟨by (with_reducible repeat (first | apply Kd.R_alloc | apply Kd.R_drewN | apply Kd.R_drew)); exact HO_3.out⟩, ⟨by repeat (first | (with_reducible first | exact HB.out | apply below_alloc | apply pw_below_drewN | apply below_drew1) | exact HB.out)⟩⟩
               ·rw [if_neg c46] at H
                have c46b0 : (t433 == ((rd_T36 t409 x10_3).f0)) = false := beq_eq_false_iff_ne.mpr c46
                have c46b1 : (t433 != ((rd_T36 t409 x10_3).f0)) = true := bne_iff_ne.mpr c46
                obtain rfl := Option.some.inj H
                have p429 : 0 ≤ (x10_3 : Int) := of_decide_eq_true (by first | (with_reducible assumption) | assumption)
                have q429 : x10_3 < (t409.length : Int) := of_decide_eq_true (by first | (with_reducible assumption) | assumption)
                obtain ⟨ad429, e429, hx429_0, hx429_1⟩ := at_T36 (Kd.R_reads' HO_3.out).2.2 x10_3 p429 q429
                cases e429
                replace p429 := eq_true p429
                replace q429 := eq_true q429
                go_wp2_with (first | ((with_reducible refine gate_callee (f := 18) rfl ?_); refine goesL_ (some 84) rfl rfl Tryd.func18 (by kernel_rfl) rfl #[.slice A0 l0.length c0] rfl (by (try simp only [List.map_toArray, List.map_cons, List.map_nil]); first | done | rfl | (simp only [List.length_drop, List.length_take]; rfl)) ?_; (with_reducible refine (galleylaw22_own.calls _ _ l0 t430 _ ?side1 ?side2 A43.out).mono ?_); (case side1 => repeat (first | exact (Kd.C_below HR0.out HB.out) | (with_reducible refine Kd.C_alloc ?_ _) | (with_reducible refine Kd.C_drewN ?_ _) | (with_reducible refine Kd.C_drew ?_))); (case side2 => exact HC0.out); rintro e w50 ⟨v431, rfl, ho0, hb⟩; refine ⟨_, rfl, ?_⟩; have n0_ := Aside0.mk (Kd.R_below (by (with_reducible repeat (first | apply Kd.R_alloc | apply Kd.R_drewN | apply Kd.R_drew)); exact HO_3.out) hb); have n1_ := Aside0.mk (Kd.R_lower ho0 (below_size (by repeat (first | (with_reducible first | exact HB.out | apply below_alloc | apply pw_below_drewN | apply below_drew1) | exact HB.out)))); have n2_ := Aside0.mk (below_step (by repeat (first | (with_reducible first | exact HB.out | apply below_alloc | apply pw_below_drewN | apply below_drew1) | exact HB.out)) hb); clear HO_3; clear HB; have HO_3 := n0_; have HO432 := n1_; have HB := n2_; clear n0_ n1_ n2_; (try clear hb); (try clear hb2); (try clear hk); (try clear hi); (try clear ho0); obtain ⟨Ao51, co51, eo51⟩ := Kd.R_slice HO432.out; subst eo51) | ((with_reducible refine gate_callee (f := 24) rfl ?_); refine goesL_ (some 86) rfl rfl Tryd.func24 (by kernel_rfl) rfl #[.slice Ao51 t430.length co51, .int .i64 x4_3] rfl (by (try simp only [List.map_toArray, List.map_cons, List.map_nil]); first | done | rfl | (simp only [List.length_drop, List.length_take]; rfl)) ?_; (with_reducible refine (words_Prev.calls k3 _ _ t430 x4_3 t433 t434 _ ?side1 ?side2 ?side3 A44.out).mono ?_); (case side1 => repeat (first | exact (Kd.R_reads' HO432.out).2.2 | (with_reducible refine Kd.C_alloc ?_ _) | (with_reducible refine Kd.C_drewN ?_ _) | (with_reducible refine Kd.C_drew ?_))); (case side2 => exact (Kd.R_reads' HO432.out).2.1); (case side3 => exact laid_below HLB.out (by repeat (first | (with_reducible first | exact HB.out | apply below_alloc | apply pw_below_drewN | apply below_drew1) | exact HB.out))); rintro e w52 ⟨rfl, hb⟩; refine ⟨_, rfl, ?_⟩; have n0_ := Aside0.mk (Kd.R_below (by (with_reducible repeat (first | apply Kd.R_alloc | apply Kd.R_drewN | apply Kd.R_drew)); exact HO_3.out) hb); have n1_ := Aside0.mk (Kd.R_below (by (with_reducible repeat (first | apply Kd.R_alloc | apply Kd.R_drewN | apply Kd.R_drew)); exact HO432.out) hb); have n2_ := Aside0.mk (below_step (by repeat (first | (with_reducible first | exact HB.out | apply below_alloc | apply pw_below_drewN | apply below_drew1) | exact HB.out)) hb); clear HO_3; clear HO432; clear HB; have HO_3 := n0_; have HO432 := n1_; have HB := n2_; clear n0_ n1_ n2_; (try clear hb); (try clear hb2); (try clear hk); (try clear hi); have p435 : 0 ≤ (x10_3 : Int) := of_decide_eq_true (by first | (with_reducible assumption) | assumption); have q435 : x10_3 < (t409.length : Int) := of_decide_eq_true (by first | (with_reducible assumption) | assumption); obtain ⟨ad435, e435, hx435_0, hx435_1⟩ := at_T36 (Kd.R_reads' HO_3.out).2.2 x10_3 p435 q435; obtain rfl : ad429 = ad435 := (by injection e435); replace p435 := eq_true p435; replace q435 := eq_true q435))
                go_ret
                exact ⟨by first | rfl | (simp [errW_none, errW_some] <;> rfl) | (simp [*, errW_none, errW_some] <;> rfl), by repeat (first | (with_reducible first | exact HB.out | apply below_alloc | apply pw_below_drewN | apply below_drew1) | exact HB.out)⟩
              ·rw [if_neg c45] at H
               have c45b0 : (t434 == 0) = false := beq_eq_false_iff_ne.mpr c45
               have c45b1 : (t434 != 0) = true := bne_iff_ne.mpr c45
               obtain rfl := Option.some.inj H
               have p429 : 0 ≤ (x10_3 : Int) := of_decide_eq_true (by first | (with_reducible assumption) | assumption)
               have q429 : x10_3 < (t409.length : Int) := of_decide_eq_true (by first | (with_reducible assumption) | assumption)
               obtain ⟨ad429, e429, hx429_0, hx429_1⟩ := at_T36 (Kd.R_reads' HO_3.out).2.2 x10_3 p429 q429
               cases e429
               replace p429 := eq_true p429
               replace q429 := eq_true q429
               go_wp2_with (first | ((with_reducible refine gate_callee (f := 18) rfl ?_); refine goesL_ (some 84) rfl rfl Tryd.func18 (by kernel_rfl) rfl #[.slice A0 l0.length c0] rfl (by (try simp only [List.map_toArray, List.map_cons, List.map_nil]); first | done | rfl | (simp only [List.length_drop, List.length_take]; rfl)) ?_; (with_reducible refine (galleylaw22_own.calls _ _ l0 t430 _ ?side1 ?side2 A43.out).mono ?_); (case side1 => repeat (first | exact (Kd.C_below HR0.out HB.out) | (with_reducible refine Kd.C_alloc ?_ _) | (with_reducible refine Kd.C_drewN ?_ _) | (with_reducible refine Kd.C_drew ?_))); (case side2 => exact HC0.out); rintro e w53 ⟨v431, rfl, ho0, hb⟩; refine ⟨_, rfl, ?_⟩; have n0_ := Aside0.mk (Kd.R_below (by (with_reducible repeat (first | apply Kd.R_alloc | apply Kd.R_drewN | apply Kd.R_drew)); exact HO_3.out) hb); have n1_ := Aside0.mk (Kd.R_lower ho0 (below_size (by repeat (first | (with_reducible first | exact HB.out | apply below_alloc | apply pw_below_drewN | apply below_drew1) | exact HB.out)))); have n2_ := Aside0.mk (below_step (by repeat (first | (with_reducible first | exact HB.out | apply below_alloc | apply pw_below_drewN | apply below_drew1) | exact HB.out)) hb); clear HO_3; clear HB; have HO_3 := n0_; have HO432 := n1_; have HB := n2_; clear n0_ n1_ n2_; (try clear hb); (try clear hb2); (try clear hk); (try clear hi); (try clear ho0); obtain ⟨Ao54, co54, eo54⟩ := Kd.R_slice HO432.out; subst eo54) | ((with_reducible refine gate_callee (f := 24) rfl ?_); refine goesL_ (some 86) rfl rfl Tryd.func24 (by kernel_rfl) rfl #[.slice Ao54 t430.length co54, .int .i64 x4_3] rfl (by (try simp only [List.map_toArray, List.map_cons, List.map_nil]); first | done | rfl | (simp only [List.length_drop, List.length_take]; rfl)) ?_; (with_reducible refine (words_Prev.calls k3 _ _ t430 x4_3 t433 t434 _ ?side1 ?side2 ?side3 A44.out).mono ?_); (case side1 => repeat (first | exact (Kd.R_reads' HO432.out).2.2 | (with_reducible refine Kd.C_alloc ?_ _) | (with_reducible refine Kd.C_drewN ?_ _) | (with_reducible refine Kd.C_drew ?_))); (case side2 => exact (Kd.R_reads' HO432.out).2.1); (case side3 => exact laid_below HLB.out (by repeat (first | (with_reducible first | exact HB.out | apply below_alloc | apply pw_below_drewN | apply below_drew1) | exact HB.out))); rintro e w55 ⟨rfl, hb⟩; refine ⟨_, rfl, ?_⟩; have n0_ := Aside0.mk (Kd.R_below (by (with_reducible repeat (first | apply Kd.R_alloc | apply Kd.R_drewN | apply Kd.R_drew)); exact HO_3.out) hb); have n1_ := Aside0.mk (Kd.R_below (by (with_reducible repeat (first | apply Kd.R_alloc | apply Kd.R_drewN | apply Kd.R_drew)); exact HO432.out) hb); have n2_ := Aside0.mk (below_step (by repeat (first | (with_reducible first | exact HB.out | apply below_alloc | apply pw_below_drewN | apply below_drew1) | exact HB.out)) hb); clear HO_3; clear HO432; clear HB; have HO_3 := n0_; have HO432 := n1_; have HB := n2_; clear n0_ n1_ n2_; (try clear hb); (try clear hb2); (try clear hk); (try clear hi)))
               go_ret
               exact ⟨by first | rfl | (simp [errW_none, errW_some] <;> rfl) | (simp [*, errW_none, errW_some] <;> rfl), by repeat (first | (with_reducible first | exact HB.out | apply below_alloc | apply pw_below_drewN | apply below_drew1) | exact HB.out)⟩
            ·rw [if_neg c41] at H
             exact absurd H (by simp)
           ·rw [if_neg c40] at H
            exact absurd H (by simp)
          ·rw [if_neg c39] at H
           have c39b0 : decide (0 ≤ x10_3) = false := decide_eq_false c39
           clear c39
           replace H := Option.bind_eq_some_iff.mp H
           obtain ⟨t424, A560, H⟩ := H
           replace H : ((words_Prev.f k3 t424 x4_3).bind fun bt427 => (if bt427.2 = 0 then (some (bt427.1 == 0)) else (some false))) = some r := H
           have A56 := Aside0.mk A560
           clear A560
           replace H := Option.bind_eq_some_iff.mp H
           obtain ⟨⟨t427, t428⟩, A570, H⟩ := H
           replace H : (if t428 = 0 then (some (t427 == 0)) else (some false)) = some r := H
           have A57 := Aside0.mk A570
           clear A570
           by_cases c58 : t428 = 0
           ·rw [if_pos c58] at H
            have c58b0 : (t428 == 0) = true := beq_iff_eq.mpr c58
            have c58b1 : (t428 != 0) = false := bne_eq_false_iff_eq.mpr c58
            clear c58
            obtain rfl := Option.some.inj H
            go_wp2_with (first | ((with_reducible refine gate_callee (f := 18) rfl ?_); refine goesL_ (some 103) rfl rfl Tryd.func18 (by kernel_rfl) rfl #[.slice A0 l0.length c0] rfl (by (try simp only [List.map_toArray, List.map_cons, List.map_nil]); first | done | rfl | (simp only [List.length_drop, List.length_take]; rfl)) ?_; (with_reducible refine (galleylaw22_own.calls _ _ l0 t424 _ ?side1 ?side2 A56.out).mono ?_); (case side1 => repeat (first | exact (Kd.C_below HR0.out HB.out) | (with_reducible refine Kd.C_alloc ?_ _) | (with_reducible refine Kd.C_drewN ?_ _) | (with_reducible refine Kd.C_drew ?_))); (case side2 => exact HC0.out); rintro e w59 ⟨v425, rfl, ho0, hb⟩; refine ⟨_, rfl, ?_⟩; have n0_ := Aside0.mk (Kd.R_below (by (with_reducible repeat (first | apply Kd.R_alloc | apply Kd.R_drewN | apply Kd.R_drew)); exact HO_3.out) hb); have n1_ := Aside0.mk (Kd.R_lower ho0 (below_size (by repeat (first | (with_reducible first | exact HB.out | apply below_alloc | apply pw_below_drewN | apply below_drew1) | exact HB.out)))); have n2_ := Aside0.mk (below_step (by repeat (first | (with_reducible first | exact HB.out | apply below_alloc | apply pw_below_drewN | apply below_drew1) | exact HB.out)) hb); clear HO_3; clear HB; have HO_3 := n0_; have HO426 := n1_; have HB := n2_; clear n0_ n1_ n2_; (try clear hb); (try clear hb2); (try clear hk); (try clear hi); (try clear ho0); obtain ⟨Ao60, co60, eo60⟩ := Kd.R_slice HO426.out; subst eo60) | ((with_reducible refine gate_callee (f := 24) rfl ?_); refine goesL_ (some 105) rfl rfl Tryd.func24 (by kernel_rfl) rfl #[.slice Ao60 t424.length co60, .int .i64 x4_3] rfl (by (try simp only [List.map_toArray, List.map_cons, List.map_nil]); first | done | rfl | (simp only [List.length_drop, List.length_take]; rfl)) ?_; (with_reducible refine (words_Prev.calls k3 _ _ t424 x4_3 t427 t428 _ ?side1 ?side2 ?side3 A57.out).mono ?_); (case side1 => repeat (first | exact (Kd.R_reads' HO426.out).2.2 | (with_reducible refine Kd.C_alloc ?_ _) | (with_reducible refine Kd.C_drewN ?_ _) | (with_reducible refine Kd.C_drew ?_))); (case side2 => exact (Kd.R_reads' HO426.out).2.1); (case side3 => exact laid_below HLB.out (by repeat (first | (with_reducible first | exact HB.out | apply below_alloc | apply pw_below_drewN | apply below_drew1) | exact HB.out))); rintro e w61 ⟨rfl, hb⟩; refine ⟨_, rfl, ?_⟩; have n0_ := Aside0.mk (Kd.R_below (by (with_reducible repeat (first | apply Kd.R_alloc | apply Kd.R_drewN | apply Kd.R_drew)); exact HO_3.out) hb); have n1_ := Aside0.mk (Kd.R_below (by (with_reducible repeat (first | apply Kd.R_alloc | apply Kd.R_drewN | apply Kd.R_drew)); exact HO426.out) hb); have n2_ := Aside0.mk (below_step (by repeat (first | (with_reducible first | exact HB.out | apply below_alloc | apply pw_below_drewN | apply below_drew1) | exact HB.out)) hb); clear HO_3; clear HO426; clear HB; have HO_3 := n0_; have HO426 := n1_; have HB := n2_; clear n0_ n1_ n2_; (try clear hb); (try clear hb2); (try clear hk); (try clear hi)))
            go_ret
            exact ⟨by first | rfl | (simp [errW_none, errW_some] <;> rfl) | (simp [*, errW_none, errW_some] <;> rfl), by repeat (first | (with_reducible first | exact HB.out | apply below_alloc | apply pw_below_drewN | apply below_drew1) | exact HB.out)⟩
           ·rw [if_neg c58] at H
            have c58b0 : (t428 == 0) = false := beq_eq_false_iff_ne.mpr c58
            have c58b1 : (t428 != 0) = true := bne_iff_ne.mpr c58
            obtain rfl := Option.some.inj H
            go_wp2_with (first | ((with_reducible refine gate_callee (f := 18) rfl ?_); refine goesL_ (some 103) rfl rfl Tryd.func18 (by kernel_rfl) rfl #[.slice A0 l0.length c0] rfl (by (try simp only [List.map_toArray, List.map_cons, List.map_nil]); first | done | rfl | (simp only [List.length_drop, List.length_take]; rfl)) ?_; (with_reducible refine (galleylaw22_own.calls _ _ l0 t424 _ ?side1 ?side2 A56.out).mono ?_); (case side1 => repeat (first | exact (Kd.C_below HR0.out HB.out) | (with_reducible refine Kd.C_alloc ?_ _) | (with_reducible refine Kd.C_drewN ?_ _) | (with_reducible refine Kd.C_drew ?_))); (case side2 => exact HC0.out); rintro e w62 ⟨v425, rfl, ho0, hb⟩; refine ⟨_, rfl, ?_⟩; have n0_ := Aside0.mk (Kd.R_below (by (with_reducible repeat (first | apply Kd.R_alloc | apply Kd.R_drewN | apply Kd.R_drew)); exact HO_3.out) hb); have n1_ := Aside0.mk (Kd.R_lower ho0 (below_size (by repeat (first | (with_reducible first | exact HB.out | apply below_alloc | apply pw_below_drewN | apply below_drew1) | exact HB.out)))); have n2_ := Aside0.mk (below_step (by repeat (first | (with_reducible first | exact HB.out | apply below_alloc | apply pw_below_drewN | apply below_drew1) | exact HB.out)) hb); clear HO_3; clear HB; have HO_3 := n0_; have HO426 := n1_; have HB := n2_; clear n0_ n1_ n2_; (try clear hb); (try clear hb2); (try clear hk); (try clear hi); (try clear ho0); obtain ⟨Ao63, co63, eo63⟩ := Kd.R_slice HO426.out; subst eo63) | ((with_reducible refine gate_callee (f := 24) rfl ?_); refine goesL_ (some 105) rfl rfl Tryd.func24 (by kernel_rfl) rfl #[.slice Ao63 t424.length co63, .int .i64 x4_3] rfl (by (try simp only [List.map_toArray, List.map_cons, List.map_nil]); first | done | rfl | (simp only [List.length_drop, List.length_take]; rfl)) ?_; (with_reducible refine (words_Prev.calls k3 _ _ t424 x4_3 t427 t428 _ ?side1 ?side2 ?side3 A57.out).mono ?_); (case side1 => repeat (first | exact (Kd.R_reads' HO426.out).2.2 | (with_reducible refine Kd.C_alloc ?_ _) | (with_reducible refine Kd.C_drewN ?_ _) | (with_reducible refine Kd.C_drew ?_))); (case side2 => exact (Kd.R_reads' HO426.out).2.1); (case side3 => exact laid_below HLB.out (by repeat (first | (with_reducible first | exact HB.out | apply below_alloc | apply pw_below_drewN | apply below_drew1) | exact HB.out))); rintro e w64 ⟨rfl, hb⟩; refine ⟨_, rfl, ?_⟩; have n0_ := Aside0.mk (Kd.R_below (by (with_reducible repeat (first | apply Kd.R_alloc | apply Kd.R_drewN | apply Kd.R_drew)); exact HO_3.out) hb); have n1_ := Aside0.mk (Kd.R_below (by (with_reducible repeat (first | apply Kd.R_alloc | apply Kd.R_drewN | apply Kd.R_drew)); exact HO426.out) hb); have n2_ := Aside0.mk (below_step (by repeat (first | (with_reducible first | exact HB.out | apply below_alloc | apply pw_below_drewN | apply below_drew1) | exact HB.out)) hb); clear HO_3; clear HO426; clear HB; have HO_3 := n0_; have HO426 := n1_; have HB := n2_; clear n0_ n1_ n2_; (try clear hb); (try clear hb2); (try clear hk); (try clear hi)))
            go_ret
            exact ⟨by first | rfl | (simp [errW_none, errW_some] <;> rfl) | (simp [*, errW_none, errW_some] <;> rfl), by repeat (first | (with_reducible first | exact HB.out | apply below_alloc | apply pw_below_drewN | apply below_drew1) | exact HB.out)⟩
 ·replace c3 := Bool.eq_false_iff.mpr c3
  subst c3
  have H1 : (some false) = some r := by rw [if_neg (show ¬ (false = true) by decide)] at H; exact H
  clear H
  have H := H1
  clear H1
  obtain rfl := Option.some.inj H
  go_enter Tryd.func10, Tryd.ntmps10
  go_wp2_with (first | ((with_reducible refine gate_callee (f := 13) rfl ?_); refine goesL_ (some 15) rfl rfl Tryd.func13 (by kernel_rfl) rfl #[] rfl (by (try simp only [List.map_toArray, List.map_cons, List.map_nil]); first | done | rfl | (simp only [List.length_drop, List.length_take]; rfl)) ?_; (with_reducible refine (galleylaw22_wakes.calls  false _ ?side1 A2.out).mono ?_); (case side1 => exact laid_below HLB.out (by repeat (first | (with_reducible first | exact HB.out | apply below_alloc | apply pw_below_drewN | apply below_drew1) | exact HB.out))); rintro e w65 ⟨rfl, hb⟩; refine ⟨_, rfl, ?_⟩; have n0_ := Aside0.mk (below_step (by repeat (first | (with_reducible first | exact HB.out | apply below_alloc | apply pw_below_drewN | apply below_drew1) | exact HB.out)) hb); clear HB; have HB := n0_; clear n0_; (try clear hb); (try clear hb2); (try clear hk); (try clear hi)))
  go_ret
  exact ⟨by first | rfl | (simp [errW_none, errW_some] <;> rfl) | (simp [*, errW_none, errW_some] <;> rfl), by repeat (first | (with_reducible first | exact HB.out | apply below_alloc | apply pw_below_drewN | apply below_drew1) | exact HB.out)⟩

end Go.Proofs.YtijbkiajhicooaaDoor.PW

namespace Go.Proofs.YtijbkiajhicooaaDoor.PW
open Go.RowKit Go.Proofs.YtijbkiajhicooaaDoorW.PrintWords Go.Proofs.YtijbkiajhicooaaDoorW.PrintLast Go.Proofs.YtijbkiajhicooaaDoorW.PrintMore
attribute [local go_sem] max2_int min2_int max_two min_two max_three min_three max_four min_four   -- for this text's walks alone
set_option linter.unusedVariables false
set_option linter.unusedSimpArgs false

def inB (a lo hi : Int) : Bool := decide (lo ≤ a) && decide (a ≤ hi)
def atI (l : List Int) (p : Int) : Int := if p < 0 ∨ p ≥ (l.length : Int) then -1 else wrap64 (rd l p)
def three (x y : Int) : Bool := (x == 224 && inB y 160 191) || (inB x 225 236 && inB y 128 191) || (x == 237 && inB y 128 159) || (inB x 238 239 && inB y 128 191)
def four (x y : Int) : Bool := (x == 240 && inB y 144 191) || (inB x 241 243 && inB y 128 191) || (x == 244 && inB y 128 143)
def longOf (x y z w : Int) : Int :=
 if inB x 0 127 then 1 else if inB x 194 223 && inB y 128 191 then 2 else if inB z 128 191 && three x y then 3 else if inB z 128 191 && inB w 128 191 && four x y then 4 else 0
def longAt (l : List Int) (p : Int) : Int := longOf (atI l p) (atI l (wrap64 (p + 1))) (atI l (wrap64 (p + 2))) (atI l (wrap64 (p + 3)))
end Go.Proofs.YtijbkiajhicooaaDoor.PW

namespace Go.Proofs.YtijbkiajhicooaaDoor.PW
open Go.RowKit Go.Proofs.YtijbkiajhicooaaDoorW.PrintWords Go.Proofs.YtijbkiajhicooaaDoorW.PrintLast Go.Proofs.YtijbkiajhicooaaDoorW.PrintMore
attribute [local go_sem] max2_int min2_int max_two min_two max_three min_three max_four min_four   -- for this text's walks alone
set_option linter.unusedVariables false
set_option linter.unusedSimpArgs false

def Bytes (l : List Int) : Prop := ∀ x ∈ l, 0 ≤ x ∧ x ≤ 255
theorem bytes_of_wf {l : List Int} (h : ∀ x ∈ l, (Lit.int .u8 x).wf = true) : Bytes l := fun x hx => by
 have := h x hx
 simp [Lit.wf] at this
 exact ⟨this.1, this.2⟩
theorem Bytes.drop {l : List Int} (h : Bytes l) (n : Nat) : Bytes (l.drop n) := fun x hx => h x (List.mem_of_mem_drop hx)
theorem rd_byte {l : List Int} (h : Bytes l) (p : Int) : 0 ≤ rd l p ∧ rd l p ≤ 255 := by
 unfold rd
 rw [List.getD_eq_getElem?_getD]
 cases hg : l[p.toNat]? with
 | none => exact ⟨Int.le_refl _, by decide⟩
 | some x => exact h x (List.mem_of_getElem? hg)
theorem wrap64_small {n : Int} (h0 : -9223372036854775808 ≤ n) (h1 : n ≤ 9223372036854775807) : wrap64 n = n := by unfold wrap64; omega
theorem atI_in {l : List Int} (hb : Bytes l) (p : Nat) (h : p < l.length) : atI l (p : Int) = l.getD p 0 ∧ 0 ≤ l.getD p 0 ∧ l.getD p 0 ≤ 255 := by
 have h1 := rd_byte hb (p : Int)
 have e : rd l (p : Int) = l.getD p 0 := by unfold rd; simp
 rw [e] at h1
 unfold atI
 rw [if_neg (by omega), e, wrap64_small (by omega) (by omega)]
 exact ⟨rfl, h1⟩
theorem atI_out (l : List Int) (p : Int) (h : p < 0 ∨ (l.length : Int) ≤ p) : atI l p = -1 := by
 unfold atI
 rw [if_pos (by omega)]
/-- The byte that decoding reads. -/
theorem getB {l : List Int} (hb : Bytes l) (p : Nat) (h : p < l.length) : (((strOfNums l).get! p).toNat : Int) = atI l (p : Int) := by
 obtain ⟨e, h0, h1⟩ := atI_in hb p h
 rw [e]
 have hg : l.getD p 0 = l[p] := by simp [List.getD, h]
 have : (strOfNums l).get! p = UInt8.ofNat (l[p]).toNat := by
  simp [ByteArray.get!, strOfNums, getElem!_def, h]
 rw [this, hg]
 rw [hg] at h0 h1
 simp
 omega
/-- Decoding, by the bytes at the place and behind it (-1: none). -/
def decV (x y z w : Int) : Int × Nat :=
 if x < 128 then (x, 1)
 else if x / 32 = 6 ∧ y / 64 = 2 then (if x % 32 * 64 + y % 64 ≥ 128 then (x % 32 * 64 + y % 64, 2) else (65533, 1))
 else if x / 16 = 14 ∧ y / 64 = 2 ∧ z / 64 = 2 then
  (if x % 16 * 4096 + y % 64 * 64 + z % 64 ≥ 2048 ∧ ¬ (55296 ≤ x % 16 * 4096 + y % 64 * 64 + z % 64 ∧ x % 16 * 4096 + y % 64 * 64 + z % 64 < 57344) then (x % 16 * 4096 + y % 64 * 64 + z % 64, 3) else (65533, 1))
 else if x / 8 = 30 ∧ y / 64 = 2 ∧ z / 64 = 2 ∧ w / 64 = 2 then
  (if x % 8 * 262144 + y % 64 * 4096 + z % 64 * 64 + w % 64 ≥ 65536 ∧ x % 8 * 262144 + y % 64 * 4096 + z % 64 * 64 + w % 64 ≤ 1114111 then (x % 8 * 262144 + y % 64 * 4096 + z % 64 * 64 + w % 64, 4) else (65533, 1))
 else (65533, 1)
theorem contB {l : List Int} (hb : Bytes l) (p : Nat) : (decide (p < (strOfNums l).size) && ((strOfNums l).get! p).toNat / 64 == 2) = decide (atI l (p : Int) / 64 = 2) := by
 rw [strOfNums_size]
 by_cases h : p < l.length
 ·have e := getB hb p h
  rw [decide_eq_true h, Bool.true_and, ← e]
  have : ((((strOfNums l).get! p).toNat : Int) / 64 = 2) ↔ (((strOfNums l).get! p).toNat / 64 = 2) := by omega
  rw [Bool.eq_iff_iff]
  simp only [beq_iff_eq, decide_eq_true_eq]
  exact this.symm
 ·rw [decide_eq_false h, Bool.false_and, atI_out l _ (by omega)]
  rfl
set_option maxRecDepth 100000 in
set_option maxHeartbeats 400000 in
theorem decode_int {l : List Int} (hb : Bytes l) (p : Nat) (h : p < l.length) :
  (((Utf8.decode (strOfNums l) p).1 : Int), (Utf8.decode (strOfNums l) p).2) = decV (atI l (p : Int)) (atI l (p + 1 : Nat)) (atI l (p + 2 : Nat)) (atI l (p + 3 : Nat)) := by
 have e0 := getB hb p h
 obtain ⟨_, x0, x1⟩ := atI_in hb p h
 rw [← (atI_in hb p h).1] at x0 x1
 have c1 := contB hb (p + 1)
 have c2 := contB hb (p + 2)
 have c3 := contB hb (p + 3)
 have ey : ∀ q, atI l (q : Nat) / 64 = 2 → (((strOfNums l).get! q).toNat : Int) = atI l (q : Nat) := fun q hq => by
  by_cases hl : q < l.length
  ·exact getB hb q hl
  ·rw [atI_out l _ (by omega)] at hq
   omega
 have e1 := ey (p + 1)
 have e2 := ey (p + 2)
 have e3 := ey (p + 3)
 unfold Utf8.decode decV
 simp only [Nat.add_zero]
 rw [c1, c2, c3]
 clear c1 c2 c3 ey
 obtain ⟨x, hx⟩ : ∃ x, atI l (p : Int) = x := ⟨_, rfl⟩
 obtain ⟨y, hy⟩ : ∃ x, atI l (p + 1 : Nat) = x := ⟨_, rfl⟩
 obtain ⟨z, hz⟩ : ∃ x, atI l (p + 2 : Nat) = x := ⟨_, rfl⟩
 obtain ⟨v, hv⟩ : ∃ x, atI l (p + 3 : Nat) = x := ⟨_, rfl⟩
 obtain ⟨b0, hb0⟩ : ∃ b, ((strOfNums l).get! p).toNat = b := ⟨_, rfl⟩
 obtain ⟨b1, hb1⟩ : ∃ b, ((strOfNums l).get! (p + 1)).toNat = b := ⟨_, rfl⟩
 obtain ⟨b2, hb2⟩ : ∃ b, ((strOfNums l).get! (p + 2)).toNat = b := ⟨_, rfl⟩
 obtain ⟨b3, hb3⟩ : ∃ b, ((strOfNums l).get! (p + 3)).toNat = b := ⟨_, rfl⟩
 rw [hx] at x0 x1 e0
 rw [hy] at e1
 rw [hz] at e2
 rw [hv] at e3
 rw [hb0] at e0
 rw [hb1] at e1
 rw [hb2] at e2
 rw [hb3] at e3
 simp only [hx, hy, hz, hv, hb0, hb1, hb2, hb3]
 clear hx hy hz hv hb0 hb1 hb2 hb3
 by_cases h0 : b0 < 128
 ·rw [if_pos h0, if_pos (by omega)]
  simp [e0]
 rw [if_neg h0, if_neg (show ¬ x < 128 by omega)]
 by_cases h1 : x / 32 = 6 ∧ y / 64 = 2
 ·have g1 := e1 h1.2
  rw [if_pos h1, if_pos (by simp; omega)]
  by_cases h2 : x % 32 * 64 + y % 64 ≥ 128
  ·rw [if_pos h2, if_pos (by omega)]
   simp
   omega
  ·rw [if_neg h2, if_neg (by omega)]
   simp [Utf8.runeError]
 rw [if_neg h1, if_neg (by simp; omega)]
 by_cases h3 : x / 16 = 14 ∧ y / 64 = 2 ∧ z / 64 = 2
 ·have g1 := e1 h3.2.1
  have g2 := e2 h3.2.2
  rw [if_pos h3, if_pos (by simp; omega)]
  by_cases h4 : x % 16 * 4096 + y % 64 * 64 + z % 64 ≥ 2048 ∧ ¬ (55296 ≤ x % 16 * 4096 + y % 64 * 64 + z % 64 ∧ x % 16 * 4096 + y % 64 * 64 + z % 64 < 57344)
  ·rw [if_pos h4, if_pos (by simp [Utf8.valid]; omega)]
   simp
   omega
  ·rw [if_neg h4, if_neg (by simp [Utf8.valid]; omega)]
   simp [Utf8.runeError]
 rw [if_neg h3, if_neg (by simp; omega)]
 by_cases h5 : x / 8 = 30 ∧ y / 64 = 2 ∧ z / 64 = 2 ∧ v / 64 = 2
 ·have g1 := e1 h5.2.1
  have g2 := e2 h5.2.2.1
  have g3 := e3 h5.2.2.2
  rw [if_pos h5, if_pos (by simp; omega)]
  by_cases h6 : x % 8 * 262144 + y % 64 * 4096 + z % 64 * 64 + v % 64 ≥ 65536 ∧ x % 8 * 262144 + y % 64 * 4096 + z % 64 * 64 + v % 64 ≤ 1114111
  ·rw [if_pos h6, if_pos (by simp [Utf8.valid]; omega)]
   simp
   omega
  ·rw [if_neg h6, if_neg (by simp [Utf8.valid]; omega)]
   simp [Utf8.runeError]
 rw [if_neg h5, if_neg (by simp; omega)]
 simp [Utf8.runeError]
def isOne (x : Int) : Prop := 0 ≤ x ∧ x ≤ 127
def isTwo (x y : Int) : Prop := 194 ≤ x ∧ x ≤ 223 ∧ 128 ≤ y ∧ y ≤ 191
def isThree (x y z : Int) : Prop := 128 ≤ z ∧ z ≤ 191 ∧ ((x = 224 ∧ 160 ≤ y ∧ y ≤ 191) ∨ (225 ≤ x ∧ x ≤ 236 ∧ 128 ≤ y ∧ y ≤ 191) ∨ (x = 237 ∧ 128 ≤ y ∧ y ≤ 159) ∨ (238 ≤ x ∧ x ≤ 239 ∧ 128 ≤ y ∧ y ≤ 191))
def isFour (x y z w : Int) : Prop := 128 ≤ z ∧ z ≤ 191 ∧ 128 ≤ w ∧ w ≤ 191 ∧ ((x = 240 ∧ 144 ≤ y ∧ y ≤ 191) ∨ (241 ≤ x ∧ x ≤ 243 ∧ 128 ≤ y ∧ y ≤ 191) ∨ (x = 244 ∧ 128 ≤ y ∧ y ≤ 143))
theorem longOf_cases (x y z w : Int) : (isOne x ∧ longOf x y z w = 1) ∨ (isTwo x y ∧ longOf x y z w = 2) ∨ (isThree x y z ∧ longOf x y z w = 3) ∨ (isFour x y z w ∧ longOf x y z w = 4) ∨
  (¬ isOne x ∧ ¬ isTwo x y ∧ ¬ isThree x y z ∧ ¬ isFour x y z w ∧ longOf x y z w = 0) := by
 have e1 : (inB x 0 127 = true) ↔ isOne x := by simp [inB, isOne]
 have e2 : (inB x 194 223 && inB y 128 191) = true ↔ isTwo x y := by simp [inB, isTwo]; omega
 have e3 : (inB z 128 191 && three x y) = true ↔ isThree x y z := by simp [inB, isThree, three]; omega
 have e4 : (inB z 128 191 && inB w 128 191 && four x y) = true ↔ isFour x y z w := by simp [inB, isFour, four]; omega
 unfold longOf
 by_cases h1 : isOne x
 ·exact .inl ⟨h1, by rw [if_pos (e1.2 h1)]⟩
 rw [if_neg (fun h => h1 (e1.1 h))]
 by_cases h2 : isTwo x y
 ·exact .inr (.inl ⟨h2, by rw [if_pos (e2.2 h2)]⟩)
 rw [if_neg (fun h => h2 (e2.1 h))]
 by_cases h3 : isThree x y z
 ·exact .inr (.inr (.inl ⟨h3, by rw [if_pos (e3.2 h3)]⟩))
 rw [if_neg (fun h => h3 (e3.1 h))]
 by_cases h4 : isFour x y z w
 ·exact .inr (.inr (.inr (.inl ⟨h4, by rw [if_pos (e4.2 h4)]⟩)))
 rw [if_neg (fun h => h4 (e4.1 h))]
 exact .inr (.inr (.inr (.inr ⟨h1, h2, h3, h4, rfl⟩)))
/-- The rune of an encoding. -/
def runeV (x y z w : Int) : Int := if longOf x y z w = 1 then x else if longOf x y z w = 2 then x % 32 * 64 + y % 64 else if longOf x y z w = 3 then x % 16 * 4096 + y % 64 * 64 + z % 64 else x % 8 * 262144 + y % 64 * 4096 + z % 64 * 64 + w % 64
theorem decV_long (x y z w : Int) (hx0 : 0 ≤ x) (hx1 : x ≤ 255) (hy : y ≤ 255) (hz : z ≤ 255) (hw : w ≤ 255) (hy0 : -1 ≤ y) (hz0 : -1 ≤ z) (hw0 : -1 ≤ w) :
  (longOf x y z w = 0 → decV x y z w = (65533, 1) ∧ ¬ (x = 239 ∧ y = 191 ∧ z = 189)) ∧
  (longOf x y z w ≠ 0 → decV x y z w = (runeV x y z w, (longOf x y z w).toNat) ∧ (runeV x y z w = 65533 ↔ (x = 239 ∧ y = 191 ∧ z = 189))) := by
 rcases longOf_cases x y z w with ⟨h, e⟩ | ⟨h, e⟩ | ⟨h, e⟩ | ⟨h, e⟩ | ⟨h1, h2, h3, h4, e⟩
 ·refine ⟨fun h0 => by omega, fun _ => ?_⟩
  unfold isOne at h
  have hr : runeV x y z w = x := by simp [runeV, e]
  rw [hr, e]
  unfold decV
  rw [if_pos (by omega)]
  exact ⟨rfl, by omega⟩
 ·refine ⟨fun h0 => by omega, fun _ => ?_⟩
  unfold isTwo at h
  have hr : runeV x y z w = x % 32 * 64 + y % 64 := by simp [runeV, e]
  rw [hr, e]
  unfold decV
  rw [if_neg (by omega), if_pos (by omega), if_pos (by omega)]
  exact ⟨rfl, by omega⟩
 ·refine ⟨fun h0 => by omega, fun _ => ?_⟩
  unfold isThree at h
  have hr : runeV x y z w = x % 16 * 4096 + y % 64 * 64 + z % 64 := by simp [runeV, e]
  rw [hr, e]
  unfold decV
  rw [if_neg (by omega), if_neg (by omega), if_pos (by omega), if_pos (by omega)]
  exact ⟨rfl, by omega⟩
 ·refine ⟨fun h0 => by omega, fun _ => ?_⟩
  unfold isFour at h
  have hr : runeV x y z w = x % 8 * 262144 + y % 64 * 4096 + z % 64 * 64 + w % 64 := by simp [runeV, e]
  rw [hr, e]
  unfold decV
  rw [if_neg (by omega), if_neg (by omega), if_neg (by omega), if_pos (by omega), if_pos (by omega)]
  exact ⟨rfl, by omega⟩
 ·refine ⟨fun _ => ?_, fun h0 => absurd e h0⟩
  unfold isOne at h1
  unfold isTwo at h2
  unfold isThree at h3
  unfold isFour at h4
  refine ⟨?_, by omega⟩
  unfold decV
  rw [if_neg (by omega)]
  by_cases g1 : x / 32 = 6 ∧ y / 64 = 2
  ·rw [if_pos g1, if_neg (by omega)]
  rw [if_neg g1]
  by_cases g2 : x / 16 = 14 ∧ y / 64 = 2 ∧ z / 64 = 2
  ·rw [if_pos g2, if_neg (by omega)]
  rw [if_neg g2]
  by_cases g3 : x / 8 = 30 ∧ y / 64 = 2 ∧ z / 64 = 2 ∧ w / 64 = 2
  ·rw [if_pos g3, if_neg (by omega)]
  rw [if_neg g3]
theorem strOfNums_drop (l : List Int) (p : Nat) : (strOfNums l).extract p (strOfNums l).size = strOfNums (l.drop p) := by
 apply ByteArray.ext
 rw [ByteArray.data_extract]
 apply Array.ext'
 rw [Array.toList_extract, strOfNums_size]
 simp only [strOfNums, List.extract_eq_take_drop]
 rw [List.map_drop]
 apply List.take_of_length_le
 simp
theorem atI_drop (l : List Int) (p q : Nat) : atI (l.drop p) (q : Int) = atI l (p + q : Nat) := by
 unfold atI rd
 simp only [List.length_drop, Int.toNat_natCast, List.getD_eq_getElem?_getD, List.getElem?_drop]
 by_cases h : p + q < l.length
 ·rw [if_neg (by omega), if_neg (by omega)]
 ·rw [if_pos (by omega), if_pos (by omega)]
theorem encode_size (r : Int) (h0 : 0 ≤ r) (h1 : r < 55296 ∨ (57344 ≤ r ∧ r ≤ 1114111)) : (Utf8.encode r).size = if r < 128 then 1 else if r < 2048 then 2 else if r < 65536 then 3 else 4 := by
 have hv : Utf8.valid r = true := by simp [Utf8.valid]; omega
 unfold Utf8.encode
 simp only [hv, if_true]
 by_cases g1 : r < 128
 ·rw [if_pos g1, if_pos (by omega)]; rfl
 rw [if_neg g1, if_neg (by omega)]
 by_cases g2 : r < 2048
 ·rw [if_pos g2, if_pos (by omega)]; rfl
 rw [if_neg g2, if_neg (by omega)]
 by_cases g3 : r < 65536
 ·rw [if_pos g3, if_pos (by omega)]; rfl
 rw [if_neg g3, if_neg (by omega)]; rfl
theorem runeV_size (x y z w : Int) (hx0 : 0 ≤ x) (hx1 : x ≤ 255) (hy : y ≤ 255) (hz : z ≤ 255) (hw : w ≤ 255) (h : longOf x y z w ≠ 0) : ((Utf8.encode (runeV x y z w)).size : Int) = longOf x y z w := by
 rcases longOf_cases x y z w with ⟨h, e⟩ | ⟨h, e⟩ | ⟨h, e⟩ | ⟨h, e⟩ | ⟨h1, h2, h3, h4, e⟩
 ·have hr : runeV x y z w = x := by simp [runeV, e]
  unfold isOne at h
  rw [hr, e, encode_size _ (by omega) (by omega), if_pos (by omega)]; rfl
 ·have hr : runeV x y z w = x % 32 * 64 + y % 64 := by simp [runeV, e]
  unfold isTwo at h
  rw [hr, e, encode_size _ (by omega) (by omega), if_neg (by omega), if_pos (by omega)]; rfl
 ·have hr : runeV x y z w = x % 16 * 4096 + y % 64 * 64 + z % 64 := by simp [runeV, e]
  unfold isThree at h
  rw [hr, e, encode_size _ (by omega) (by omega), if_neg (by omega), if_neg (by omega), if_pos (by omega)]; rfl
 ·have hr : runeV x y z w = x % 8 * 262144 + y % 64 * 4096 + z % 64 * 64 + w % 64 := by simp [runeV, e]
  unfold isFour at h
  rw [hr, e, encode_size _ (by omega) (by omega), if_neg (by omega), if_neg (by omega), if_neg (by omega)]; rfl
 ·exact absurd e h
theorem atI_range {l : List Int} (hb : Bytes l) (p : Nat) : -1 ≤ atI l (p : Int) ∧ atI l (p : Int) ≤ 255 := by
 by_cases h : p < l.length
 ·obtain ⟨e, h0, h1⟩ := atI_in hb p h
  rw [e]; omega
 ·rw [atI_out l _ (by omega)]; omega
theorem hasFD_int {l : List Int} (hb : Bytes l) : hasFD (strOfNums l) = true ↔ (atI l (0 : Nat) = 239 ∧ atI l (1 : Nat) = 191 ∧ atI l (2 : Nat) = 189) := by
 match l, hb with
 | [], _ => simp [hasFD, strOfNums_size, atI]
 | [a], _ => simp [hasFD, strOfNums_size, atI]
 | [a, b], _ => simp [hasFD, strOfNums_size, atI]
 | a :: b :: c :: r, hb =>
  have ha := hb a (by simp)
  have hb' := hb b (by simp)
  have hc := hb c (by simp)
  have e0 := (atI_in hb 0 (by simp)).1
  have e1 := (atI_in hb 1 (by simp)).1
  have e2 := (atI_in hb 2 (by simp)).1
  rw [e0, e1, e2]
  have hx : ((strOfNums (a :: b :: c :: r)).extract 0 3).toList = [UInt8.ofNat a.toNat, UInt8.ofNat b.toNat, UInt8.ofNat c.toNat] := by
   have he : (strOfNums (a :: b :: c :: r)).extract 0 3 = strOfNums [a, b, c] := by
    apply ByteArray.ext
    rw [ByteArray.data_extract]
    apply Array.ext'
    rw [Array.toList_extract]
    simp [strOfNums]
   rw [he, Lib.strOfNums_toList]
   rfl
  have u : ∀ (n : Int) (k : Nat), 0 ≤ n → n ≤ 255 → k ≤ 255 → ((UInt8.ofNat n.toNat = UInt8.ofNat k) ↔ n = (k : Int)) := by
   intro n k h0 h1 h2
   rw [← UInt8.toNat_inj]
   simp
   omega
  unfold hasFD
  rw [hx, strOfNums_size]
  have u0 := u a 239 ha.1 ha.2 (by decide)
  have u1 := u b 191 hb'.1 hb'.2 (by decide)
  have u2 := u c 189 hc.1 hc.2 (by decide)
  simp only [beq_iff_eq, Bool.and_eq_true, decide_eq_true_eq, List.cons.injEq, and_true]
  have v0 : (UInt8.ofNat a.toNat = (239 : UInt8)) ↔ a = 239 := u0
  have v1 : (UInt8.ofNat b.toNat = (191 : UInt8)) ↔ b = 191 := u1
  have v2 : (UInt8.ofNat c.toNat = (189 : UInt8)) ↔ c = 189 := u2
  rw [v0, v1, v2]
  simp
/-- The step at a place, by the table. -/
def ofL (l : List Int) (p : Nat) : Int × Int × Bool :=
 if longAt l (p : Int) = 0 then (65533, 1, false) else (runeV (atI l (p : Int)) (atI l (p + 1 : Nat)) (atI l (p + 2 : Nat)) (atI l (p + 3 : Nat)), longAt l (p : Int), true)
theorem longAt_nat (l : List Int) (p : Nat) (hp : p ≤ 4611686018427387904) : longAt l (p : Int) = longOf (atI l (p : Int)) (atI l (p + 1 : Nat)) (atI l (p + 2 : Nat)) (atI l (p + 3 : Nat)) := by
 unfold longAt
 rw [wrap64_small (by omega) (by omega), wrap64_small (by omega) (by omega), wrap64_small (by omega) (by omega)]
 rfl
theorem first_of {l : List Int} (hb : Bytes l) (p : Nat) (hp : p < l.length) (hl : l.length ≤ 4611686018427387904) :
  firstOf ((strOfNums l).extract p (strOfNums l).size) = ofL l p ∧ ((Utf8.decode (strOfNums l) p).2 : Int) = (ofL l p).2.1 := by
 have d1 := decode_int hb p hp
 have d2 := decode_int (hb.drop p) 0 (by simp; omega)
 have r0 := atI_range hb p
 have r1 := atI_range hb (p + 1)
 have r2 := atI_range hb (p + 2)
 have r3 := atI_range hb (p + 3)
 have hx0 : 0 ≤ atI l (p : Int) := by rw [(atI_in hb p hp).1]; exact (atI_in hb p hp).2.1
 have q0 := atI_drop l p 0
 have q1 := atI_drop l p 1
 have q2 := atI_drop l p 2
 have q3 := atI_drop l p 3
 have hfd := hasFD_int (hb.drop p)
 simp only [Nat.zero_add, Nat.add_zero] at d2 q0 q1 q2 q3
 rw [q0, q1, q2, q3] at d2
 rw [q0, q1, q2] at hfd
 have hlong := longAt_nat l p (by omega)
 rw [strOfNums_drop]
 unfold ofL firstOf
 rw [hlong, strOfNums_size, if_neg (by simp; omega)]
 have hD := decV_long (atI l (p : Int)) (atI l (p + 1 : Nat)) (atI l (p + 2 : Nat)) (atI l (p + 3 : Nat)) hx0 r0.2 r1.2 r2.2 r3.2 r1.1 r2.1 r3.1
 have hS := runeV_size (atI l (p : Int)) (atI l (p + 1 : Nat)) (atI l (p + 2 : Nat)) (atI l (p + 3 : Nat)) hx0 r0.2 r1.2 r2.2 r3.2
 obtain ⟨x, hx⟩ : ∃ x, atI l (p : Int) = x := ⟨_, rfl⟩
 obtain ⟨y, hy⟩ : ∃ x, atI l (p + 1 : Nat) = x := ⟨_, rfl⟩
 obtain ⟨z, hz⟩ : ∃ x, atI l (p + 2 : Nat) = x := ⟨_, rfl⟩
 obtain ⟨v, hv⟩ : ∃ x, atI l (p + 3 : Nat) = x := ⟨_, rfl⟩
 simp only [hx, hy, hz, hv] at d1 d2 hfd hD hS ⊢
 clear q0 q1 q2 q3 hx hy hz hv hlong r0 r1 r2 r3 hx0
 by_cases h0 : longOf x y z v = 0
 ·obtain ⟨hd, hn⟩ := hD.1 h0
  rw [hd] at d1 d2
  simp only [Prod.mk.injEq] at d1 d2
  have e1 : (Utf8.decode (strOfNums (l.drop p)) 0).1 = 65533 := by omega
  rw [if_pos h0, if_pos e1, if_neg (fun h => hn (hfd.1 h))]
  exact ⟨rfl, by rw [d1.2]; rfl⟩
 ·obtain ⟨hd, hr⟩ := hD.2 h0
  have hs := hS h0
  rw [hd] at d1 d2
  simp only [Prod.mk.injEq] at d1 d2
  have hpos : 0 ≤ longOf x y z v := by rw [← hs]; omega
  rw [if_neg h0]
  by_cases hr3 : runeV x y z v = 65533
  ·have e1 : (Utf8.decode (strOfNums (l.drop p)) 0).1 = 65533 := by omega
   rw [if_pos e1, if_pos (hfd.2 (hr.1 hr3)), hr3]
   have hl3 : longOf x y z v = 3 := by
    rw [hr3] at hs
    rw [← hs]
    rfl
   rw [hl3] at d1 ⊢
   exact ⟨rfl, by rw [d1.2]; rfl⟩
  ·have e1 : ¬ (Utf8.decode (strOfNums (l.drop p)) 0).1 = 65533 := by omega
   rw [if_neg e1, d2.1, hs]
   refine ⟨rfl, ?_⟩
   show ((Utf8.decode (strOfNums l) p).2 : Int) = longOf x y z v
   rw [d1.2]
   omega

end Go.Proofs.YtijbkiajhicooaaDoor.PW

namespace Go.Proofs.YtijbkiajhicooaaDoor.PW
open Go.RowKit Go.Proofs.YtijbkiajhicooaaDoorW.PrintWords Go.Proofs.YtijbkiajhicooaaDoorW.PrintLast Go.Proofs.YtijbkiajhicooaaDoorW.PrintMore
attribute [local go_sem] max2_int min2_int max_two min_two max_three min_three max_four min_four   -- for this text's walks alone
set_option linter.unusedVariables false
set_option linter.unusedSimpArgs false

def Ev {β : Type} (g : Nat → Option β) (v : β) : Prop := ∃ K, ∀ k, K ≤ k → g k = some v
theorem Ev.pure {β : Type} (v : β) : Ev (fun _ => some v) v := ⟨0, fun _ _ => rfl⟩
theorem Ev.of_eq {β : Type} {g : Nat → Option β} {v : β} (h : ∀ k, g k = some v) : Ev g v := ⟨0, fun k _ => h k⟩
theorem Ev.bind {α β : Type} {g : Nat → Option α} {h : Nat → α → Option β} {v : α} {u : β} (hg : Ev g v) (hh : Ev (fun k => h k v) u) : Ev (fun k => (g k).bind (h k)) u := by
 obtain ⟨K, hK⟩ := hg
 obtain ⟨M, hM⟩ := hh
 refine ⟨max K M, fun k hk => ?_⟩
 show (g k).bind (h k) = some u
 rw [hK k (by omega)]
 exact hM k (by omega)
theorem Ev.succ {β : Type} {g h : Nat → Option β} {v : β} (hh : Ev h v) (e : ∀ k, g (k + 1) = h k) : Ev g v := by
 obtain ⟨K, hK⟩ := hh
 refine ⟨K + 1, fun k hk => ?_⟩
 obtain ⟨m, rfl⟩ : ∃ m, k = m + 1 := ⟨k - 1, by omega⟩
 rw [e]
 exact hK m (by omega)
theorem Ev.congr {β : Type} {g h : Nat → Option β} {v : β} (hh : Ev h v) (e : ∀ k, g k = h k) : Ev g v := by
 obtain ⟨K, hK⟩ := hh
 exact ⟨K, fun k hk => by rw [e]; exact hK k hk⟩
theorem Ev.some {β : Type} {g : Nat → Option β} {v : β} (h : Ev g v) : ∃ k, g k = some v := by
 obtain ⟨K, hK⟩ := h
 exact ⟨K, hK K (Nat.le_refl _)⟩
end Go.Proofs.YtijbkiajhicooaaDoor.PW

namespace Go.Proofs.YtijbkiajhicooaaDoor.PW
open Go.RowKit Go.Proofs.YtijbkiajhicooaaDoorW.PrintWords Go.Proofs.YtijbkiajhicooaaDoorW.PrintLast Go.Proofs.YtijbkiajhicooaaDoorW.PrintMore
attribute [local go_sem] max2_int min2_int max_two min_two max_three min_three max_four min_four   -- for this text's walks alone
set_option linter.unusedVariables false
set_option linter.unusedSimpArgs false

/-- How far the step at a place goes. -/
def widL (l : List Int) (p : Nat) : Nat := if longAt l (p : Int) = 0 then 1 else (longAt l (p : Int)).toNat
theorem longAt_facts {l : List Int} (hb : Bytes l) (p : Nat) (hl : l.length ≤ 4398046511104) (hp : p ≤ l.length) :
  0 ≤ longAt l (p : Int) ∧ longAt l (p : Int) ≤ 4 ∧ (0 < longAt l (p : Int) → p + (longAt l (p : Int)).toNat ≤ l.length) ∧
  (∀ j : Nat, 1 ≤ j → (j : Int) < longAt l (p : Int) → 128 ≤ atI l (p + j : Nat) ∧ atI l (p + j : Nat) ≤ 191) ∧ (128 ≤ atI l (p : Int) ∧ atI l (p : Int) ≤ 191 → longAt l (p : Int) = 0) := by
 have hlong := longAt_nat l p (by omega)
 have r1 : 0 ≤ atI l (p + 1 : Nat) → p + 1 < l.length := fun h => by
  by_cases g : p + 1 < l.length
  ·exact g
  ·rw [atI_out l _ (by omega)] at h; omega
 have r2 : 0 ≤ atI l (p + 2 : Nat) → p + 2 < l.length := fun h => by
  by_cases g : p + 2 < l.length
  ·exact g
  ·rw [atI_out l _ (by omega)] at h; omega
 have r3 : 0 ≤ atI l (p + 3 : Nat) → p + 3 < l.length := fun h => by
  by_cases g : p + 3 < l.length
  ·exact g
  ·rw [atI_out l _ (by omega)] at h; omega
 have r0 : 0 ≤ atI l (p : Int) → p < l.length := fun h => by
  by_cases g : p < l.length
  ·exact g
  ·rw [atI_out l _ (by omega)] at h; omega
 have sp : ∀ j : Nat, 1 ≤ j → (j : Int) < 4 → j = 1 ∨ j = 2 ∨ j = 3 := fun j h1 h2 => by omega
 rw [hlong]
 rcases longOf_cases (atI l (p : Int)) (atI l (p + 1 : Nat)) (atI l (p + 2 : Nat)) (atI l (p + 3 : Nat)) with ⟨h, e⟩ | ⟨h, e⟩ | ⟨h, e⟩ | ⟨h, e⟩ | ⟨h1, h2, h3, h4, e⟩
 ·unfold isOne at h
  rw [e]
  exact ⟨by omega, by omega, fun _ => by have := r0 (by omega); simp; omega, fun j h1 h2 => by omega, fun g => by omega⟩
 ·unfold isTwo at h
  rw [e]
  refine ⟨by omega, by omega, fun _ => by have := r1 (by omega); simp; omega, fun j h1 h2 => ?_, fun g => by omega⟩
  obtain rfl : j = 1 := by omega
  omega
 ·unfold isThree at h
  rw [e]
  refine ⟨by omega, by omega, fun _ => by have := r2 (by omega); simp; omega, fun j h1 h2 => ?_, fun g => by omega⟩
  rcases (show j = 1 ∨ j = 2 by omega) with rfl | rfl
  ·omega
  ·omega
 ·unfold isFour at h
  rw [e]
  refine ⟨by omega, by omega, fun _ => by have := r3 (by omega); simp; omega, fun j h1 h2 => ?_, fun g => by omega⟩
  rcases sp j h1 h2 with rfl | rfl | rfl
  ·omega
  ·omega
  ·omega
 ·rw [e]
  exact ⟨by omega, by omega, fun h => by omega, fun j h1 h2 => by omega, fun _ => rfl⟩
theorem widL_pos {l : List Int} (hb : Bytes l) (p : Nat) (hl : l.length ≤ 4398046511104) (hp : p < l.length) : 1 ≤ widL l p ∧ widL l p ≤ 4 ∧ p + widL l p ≤ l.length := by
 obtain ⟨h0, h1, h2, _, _⟩ := longAt_facts hb p hl (by omega)
 unfold widL
 by_cases h : longAt l (p : Int) = 0
 ·rw [if_pos h]; omega
 ·rw [if_neg h]
  have := h2 (by omega)
  omega
end Go.Proofs.YtijbkiajhicooaaDoor.PW

namespace Go.Proofs.YtijbkiajhicooaaDoor.PW
open Go.RowKit Go.Proofs.YtijbkiajhicooaaDoorW.PrintWords Go.Proofs.YtijbkiajhicooaaDoorW.PrintLast Go.Proofs.YtijbkiajhicooaaDoorW.PrintMore
attribute [local go_sem] max2_int min2_int max_two min_two max_three min_three max_four min_four   -- for this text's walks alone
set_option linter.unusedVariables false
set_option linter.unusedSimpArgs false

theorem ofL_wid {l : List Int} (hb : Bytes l) (hl : l.length ≤ 4398046511104) (p : Nat) (hp : p < l.length) : (ofL l p).2.1 = (widL l p : Int) := by
 unfold ofL widL
 by_cases g : longAt l (p : Int) = 0
 ·rw [if_pos g, if_pos g]; rfl
 ·rw [if_neg g, if_neg g]
  have := (longAt_facts hb p hl (by omega)).1
  show longAt l (p : Int) = _
  omega
theorem sf_cons {l : List Int} (hb : Bytes l) (hl : l.length ≤ 4398046511104) (p : Nat) (hp : p < l.length) :
  stepsFrom (strOfNums l) p = ((p : Int), ofL l p) :: stepsFrom (strOfNums l) (p + widL l p) := by
 have h := first_of hb p hp (by omega)
 have hw := ofL_wid hb hl p hp
 rw [stepsFrom_cons _ _ (by rw [strOfNums_size]; exact hp), h.1, show (Utf8.decode (strOfNums l) p).2 = widL l p by omega]
theorem sf_nil {l : List Int} (p : Nat) (hp : l.length ≤ p) : stepsFrom (strOfNums l) p = [] := stepsFrom_nil _ _ (by rw [strOfNums_size]; omega)
/-- A step's kind. -/
abbrev kOf (x : PStep) : Int := kindOf x.2.1 x.2.2.2
theorem runStep_nil (x : PStep) : runStep [] x = [⟨⟨x.1, wrap64 (x.1 + x.2.2.1)⟩, kOf x⟩] := by
 unfold runStep
 rw [if_neg (by simp)]
 rfl
theorem rd_run_last (rs : List S83) (r : S83) : rd_T83 (rs ++ [r]) (((rs ++ [r]).length : Int) - 1) = r := by
 unfold rd_T83
 rw [List.getD_eq_getElem?_getD, show (((rs ++ [r]).length : Int) - 1).toNat = rs.length by simp, List.getElem?_append_right (Nat.le_refl _)]
 simp
theorem runStep_snoc (rs : List S83) (r : S83) (x : PStep) :
  runStep (rs ++ [r]) x = if r.f1 = kOf x then rs ++ [⟨⟨r.f0.f0, wrap64 (x.1 + x.2.2.1)⟩, r.f1⟩] else (rs ++ [r]) ++ [⟨⟨x.1, wrap64 (x.1 + x.2.2.1)⟩, kOf x⟩] := by
 unfold runStep
 rw [rd_run_last]
 by_cases h : r.f1 = kOf x
 ·rw [if_pos ⟨by simp, h⟩, if_pos h, show (((rs ++ [r]).length : Int) - 1).toNat = rs.length by simp]
  rw [List.set_append_right _ _ (Nat.le_refl _)]
  simp
 ·rw [if_neg (fun g => h g.2), if_neg h]
def Chain : Int → List S83 → Int → Prop
 | a, [], b => a = b
 | a, r :: rs, b => r.f0.f0 = a ∧ a < r.f0.f1 ∧ Chain r.f0.f1 rs b
theorem chain_snoc (r : S83) : ∀ (rs : List S83) (a b : Int), Chain a (rs ++ [r]) b ↔ (Chain a rs r.f0.f0 ∧ r.f0.f0 < r.f0.f1 ∧ r.f0.f1 = b) := by
 intro rs
 induction rs with
 | nil =>
  intro a b
  simp only [List.nil_append, Chain]
  constructor
  ·rintro ⟨rfl, h, h2⟩; exact ⟨rfl, h, h2⟩
  ·rintro ⟨rfl, h, h2⟩; exact ⟨rfl, h, h2⟩
 | cons q rs ih =>
  intro a b
  simp only [List.cons_append, Chain, ih]
  constructor
  ·rintro ⟨h1, h2, h3, h4, h5⟩; exact ⟨⟨h1, h2, h3⟩, h4, h5⟩
  ·rintro ⟨⟨h1, h2, h3⟩, h4, h5⟩; exact ⟨h1, h2, h3, h4, h5⟩
theorem chain_step {a b : Int} {rs : List S83} {x : PStep} (h : Chain a rs b) (hx : x.1 = b) (hw : 0 < x.2.2.1) (h0 : 0 ≤ b) (hb : b + x.2.2.1 ≤ 4398046511104) : Chain a (runStep rs x) (b + x.2.2.1) := by
 have e : wrap64 (x.1 + x.2.2.1) = b + x.2.2.1 := by rw [wrap64_small (by omega) (by omega), hx]
 rcases List.eq_nil_or_concat rs with rfl | ⟨rs', r, rfl⟩
 ·rw [runStep_nil, e]
  exact ⟨show x.1 = a by rw [hx]; exact h.symm, show a < b + x.2.2.1 by rw [show a = b from h]; omega, rfl⟩
 ·rw [List.concat_eq_append] at h ⊢
  rw [chain_snoc] at h
  rw [runStep_snoc, e]
  by_cases g : r.f1 = kOf x
  ·rw [if_pos g, chain_snoc]
   exact ⟨h.1, by show r.f0.f0 < b + x.2.2.1; omega, rfl⟩
  ·rw [if_neg g, chain_snoc, chain_snoc]
   exact ⟨⟨h.1, h.2.1, by show r.f0.f1 = x.1; omega⟩, by show x.1 < b + x.2.2.1; omega, rfl⟩
theorem runs_chain_from {l : List Int} (hb : Bytes l) (hl : l.length ≤ 4398046511103) : ∀ (n p : Nat) (rs : List S83), l.length - p = n → p ≤ l.length → Chain 0 rs p → Chain 0 ((stepsFrom (strOfNums l) p).foldl runStep rs) (l.length : Int) := by
 intro n
 induction n using Nat.strongRecOn with
 | _ n ih =>
  intro p rs hn hp hc
  by_cases hlt : p < l.length
  ·obtain ⟨w1, w4, wl⟩ := widL_pos hb p (by omega) hlt
   have hw := ofL_wid hb (by omega) p hlt
   rw [sf_cons hb (by omega) p hlt, List.foldl_cons]
   refine ih (l.length - (p + widL l p)) (by omega) _ _ rfl (by omega) ?_
   have := chain_step (x := ((p : Int), ofL l p)) hc rfl (by show 0 < (ofL l p).2.1; omega) (by omega) (by show (p : Int) + (ofL l p).2.1 ≤ _; omega)
   rw [show ((p + widL l p : Nat) : Int) = (p : Int) + (ofL l p).2.1 by omega]
   exact this
  ·obtain rfl : p = l.length := by omega
   rw [sf_nil _ (Nat.le_refl _)]
   exact hc
theorem runs_chain {l : List Int} (hb : Bytes l) (hl : l.length ≤ 4398046511103) : Chain 0 (runsOf l) (l.length : Int) :=
 runs_chain_from hb hl l.length 0 [] (by omega) (by omega) rfl

end Go.Proofs.YtijbkiajhicooaaDoor.PW

namespace Go.Proofs.YtijbkiajhicooaaDoor.PW
open Go.RowKit Go.Proofs.YtijbkiajhicooaaDoorW.PrintWords Go.Proofs.YtijbkiajhicooaaDoorW.PrintLast Go.Proofs.YtijbkiajhicooaaDoorW.PrintMore
attribute [local go_sem] max2_int min2_int max_two min_two max_three min_three max_four min_four   -- for this text's walks alone
set_option linter.unusedVariables false
set_option linter.unusedSimpArgs false

/-- The steps of a text. -/
abbrev stepsL (l : List Int) : List PStep := allSteps (strOfNums l)
end Go.Proofs.YtijbkiajhicooaaDoor.PW

namespace Go.Proofs.YtijbkiajhicooaaDoor.PW
open Go.RowKit Go.Proofs.YtijbkiajhicooaaDoorW.PrintWords Go.Proofs.YtijbkiajhicooaaDoorW.PrintLast Go.Proofs.YtijbkiajhicooaaDoorW.PrintMore
attribute [local go_sem] max2_int min2_int max_two min_two max_three min_three max_four min_four   -- for this text's walks alone
set_option linter.unusedVariables false
set_option linter.unusedSimpArgs false

theorem words_all_l0 (rs : List S83) (hl : rs.length ≤ 4398046511104) : ∀ (n i : Nat) (out : List S36), rs.length - i = n → i ≤ rs.length → out.length ≤ i →
  Ev (fun k => words_All.l0 k out rs (rs.length : Int) (i : Int)) (out ++ ((rs.drop i).filter fun r => r.f1 == 3).map fun r => ⟨r.f0.f0, r.f0.f1⟩) := by
 intro n
 induction n with
 | zero =>
  intro i out hn hi ho
  obtain rfl : i = rs.length := by omega
  refine Ev.succ (h := fun _ => some out) ?_ (fun k => ?_)
  ·simpa using Ev.pure out
  ·rw [words_All.l0, if_neg (by omega)]
 | succ n ih =>
  intro i out hn hi ho
  have hlt : i < rs.length := by omega
  have hw : wrap64 ((i : Int) + 1) = ((i + 1 : Nat) : Int) := by rw [wrap64_small (by omega) (by omega)]; omega
  have hrd : rd_T83 rs (i : Int) = rs[i] := by
   unfold rd_T83
   rw [List.getD_eq_getElem?_getD, Int.toNat_natCast, List.getElem?_eq_getElem hlt]
   rfl
  rw [List.drop_eq_getElem_cons hlt, List.filter_cons]
  by_cases h3 : (rs[i]).f1 = 3
  ·refine Ev.succ (h := fun k => words_All.l0 k (out ++ [⟨(rs[i]).f0.f0, (rs[i]).f0.f1⟩]) rs (rs.length : Int) ((i + 1 : Nat) : Int)) ?_ (fun k => ?_)
   ·rw [if_pos (by simpa using h3)]
    have := ih (i + 1) (out ++ [⟨(rs[i]).f0.f0, (rs[i]).f0.f1⟩]) (by omega) (by omega) (by simp; omega)
    rw [List.append_assoc] at this
    exact this
   ·rw [words_All.l0, if_pos (by omega), if_pos (by omega), if_pos (by omega), hrd, if_pos h3, if_pos (by omega), hw]
  ·refine Ev.succ (h := fun k => words_All.l0 k out rs (rs.length : Int) ((i + 1 : Nat) : Int)) ?_ (fun k => ?_)
   ·rw [if_neg (by simpa using h3)]
    exact ih (i + 1) out (by omega) (by omega) (by omega)
   ·rw [words_All.l0, if_pos (by omega), if_pos (by omega), if_pos (by omega), hrd, if_neg h3, hw]

end Go.Proofs.YtijbkiajhicooaaDoor.PW

namespace Go.Proofs.YtijbkiajhicooaaDoor.PW
open Go.RowKit Go.Proofs.YtijbkiajhicooaaDoorW.PrintWords Go.Proofs.YtijbkiajhicooaaDoorW.PrintLast Go.Proofs.YtijbkiajhicooaaDoorW.PrintMore
attribute [local go_sem] max2_int min2_int max_two min_two max_three min_three max_four min_four   -- for this text's walks alone
set_option linter.unusedVariables false
set_option linter.unusedSimpArgs false

/-- The words' pieces. -/
def wordsOf (l : List Int) : List S36 := ((runsOf l).filter fun r => r.f1 == 3).map (·.f0)
theorem runsOf_length (l : List Int) : (runsOf l).length ≤ l.length := by
 have h1 := runs_length (stepsL l) []
 have h2 := stepsFrom_length (strOfNums l) 0
 rw [strOfNums_size] at h2
 unfold runsOf
 unfold stepsL allSteps at h1
 unfold allSteps
 simp only [List.length_nil] at h1
 omega
theorem wordsOf_length (l : List Int) : (wordsOf l).length ≤ l.length := by
 unfold wordsOf
 rw [List.length_map]
 exact Nat.le_trans (List.length_filter_le _ _) (runsOf_length l)
theorem words_all_ev {l : List Int} (hl : l.length ≤ 4398046511103) : Ev (fun k => words_All.f k l) (wordsOf l) := by
 have hr := runsOf_length l
 have h := words_all_l0 (runsOf l) (by omega) (runsOf l).length 0 [] (by omega) (by omega) (by simp)
 have e : words_runs.f l = some (runsOf l) := by unfold words_runs.f; rw [if_pos (by omega)]
 refine Ev.bind (Ev.of_eq fun _ => e) ?_
 exact h
theorem own_some (l : List Int) (hl : l.length ≤ 4398046511103) : galleylaw22_own.f l = some l := by
 unfold galleylaw22_own.f
 rw [Option.bind_some, if_pos (by simp; omega), List.nil_append]
end Go.Proofs.YtijbkiajhicooaaDoor.PW
namespace Go.Proofs.YtijbkiajhicooaaDoor.Pure
open Go.Proofs.YtijbkiajhicooaaDoor.PW Go.RowKit
end Go.Proofs.YtijbkiajhicooaaDoor.Pure
namespace Go.Proofs.YtijbkiajhicooaaDoor.PW

end Go.Proofs.YtijbkiajhicooaaDoor.PW

namespace Go.Proofs.YtijbkiajhicooaaDoor.PW
open Go.RowKit Go.Proofs.YtijbkiajhicooaaDoorW.PrintWords Go.Proofs.YtijbkiajhicooaaDoorW.PrintLast Go.Proofs.YtijbkiajhicooaaDoorW.PrintMore
attribute [local go_sem] max2_int min2_int max_two min_two max_three min_three max_four min_four   -- for this text's walks alone
set_option linter.unusedVariables false
set_option linter.unusedSimpArgs false

theorem outside_ev (l : List Int) (a : Int) : words_outside.f l a = some (decide (a < 0 ∨ a > (l.length : Int))) := by
 unfold words_outside.f
 by_cases h : a < 0
 ·rw [if_pos h, decide_eq_true (.inl h)]
 ·rw [if_neg h]
  by_cases g : a > (l.length : Int)
  ·rw [decide_eq_true g, decide_eq_true (.inr g)]
  ·rw [decide_eq_false g, decide_eq_false (by omega)]
theorem rd_hit (ws : List S36) (i : Nat) (h : i < ws.length) : rd_T36 ws (i : Int) = ws[i] := by
 unfold rd_T36
 rw [List.getD_eq_getElem?_getD, Int.toNat_natCast, List.getElem?_eq_getElem h]
 rfl
def nextOf (len a : Int) : List S36 → Int
 | [] => len
 | h :: t => if h.f0 > a then h.f0 else nextOf len a t
def prevOf (a : Int) : List S36 → Int → Int
 | [], b => b
 | h :: t, b => prevOf a t (if h.f0 < a then h.f0 else b)
theorem next_l0 (l : List Int) (a : Int) (ws : List S36) (hl : ws.length ≤ 4398046511104) : ∀ (n i : Nat), ws.length - i = n → i ≤ ws.length →
  Ev (fun k => words_Next.l0 k l a ws (ws.length : Int) (i : Int)) (nextOf (l.length : Int) a (ws.drop i), 0) := by
 intro n
 induction n with
 | zero =>
  intro i hn hi
  obtain rfl : i = ws.length := by omega
  rw [List.drop_length]
  refine Ev.succ (h := fun _ => some ((l.length : Int), 0)) (Ev.pure _) (fun k => ?_)
  rw [words_Next.l0, if_neg (by omega)]
 | succ n ih =>
  intro i hn hi
  have hlt : i < ws.length := by omega
  have hw : wrap64 ((i : Int) + 1) = ((i + 1 : Nat) : Int) := by rw [wrap64_small (by omega) (by omega)]; omega
  have c1 : (i : Int) < (ws.length : Int) := by omega
  have c3 : (0 : Int) ≤ (i : Int) := by omega
  have ih1 := ih (i + 1) (by omega) (by omega)
  have h1 := rd_hit ws i hlt
  rw [List.drop_eq_getElem_cons hlt]
  by_cases g : (ws[i]).f0 > a
  ·simp only [nextOf, if_pos g]
   refine Ev.succ (h := fun _ => some ((ws[i]).f0, 0)) (Ev.pure _) (fun k => ?_)
   rw [words_Next.l0, if_pos c1, if_pos c3, if_pos c1, h1, if_pos g]
  ·simp only [nextOf, if_neg g]
   refine Ev.succ ih1 (fun k => ?_)
   rw [words_Next.l0, if_pos c1, if_pos c3, if_pos c1, h1, if_neg g, hw]
theorem prev_l0 (a : Int) (ws : List S36) (hl : ws.length ≤ 4398046511104) : ∀ (n i : Nat) (b : Int), ws.length - i = n → i ≤ ws.length →
  Ev (fun k => words_Prev.l0 k a b ws (ws.length : Int) (i : Int)) (prevOf a (ws.drop i) b, 0) := by
 intro n
 induction n with
 | zero =>
  intro i b hn hi
  obtain rfl : i = ws.length := by omega
  rw [List.drop_length]
  refine Ev.succ (h := fun _ => some (b, 0)) (Ev.pure _) (fun k => ?_)
  rw [words_Prev.l0, if_neg (by omega)]
 | succ n ih =>
  intro i b hn hi
  have hlt : i < ws.length := by omega
  have hw : wrap64 ((i : Int) + 1) = ((i + 1 : Nat) : Int) := by rw [wrap64_small (by omega) (by omega)]; omega
  have c1 : (i : Int) < (ws.length : Int) := by omega
  have c3 : (0 : Int) ≤ (i : Int) := by omega
  have ih1 := fun b => ih (i + 1) b (by omega) (by omega)
  have h1 := rd_hit ws i hlt
  rw [List.drop_eq_getElem_cons hlt]
  by_cases g : (ws[i]).f0 < a
  ·simp only [prevOf, if_pos g]
   refine Ev.succ (ih1 _) (fun k => ?_)
   rw [words_Prev.l0, if_pos c1, if_pos c3, if_pos c1, h1, if_pos g, hw]
  ·simp only [prevOf, if_neg g]
   refine Ev.succ (ih1 _) (fun k => ?_)
   rw [words_Prev.l0, if_pos c1, if_pos c3, if_pos c1, h1, if_neg g, hw]
/-- The answers of Next and Prev. -/
def goNext (l : List Int) (a : Int) : Int × Int := if a < 0 ∨ a > (l.length : Int) then (0, 2) else (nextOf (l.length : Int) a (wordsOf l), 0)
def goPrev (l : List Int) (a : Int) : Int × Int := if a < 0 ∨ a > (l.length : Int) then (0, 2) else (prevOf a (wordsOf l) 0, 0)
theorem words_next_ev {l : List Int} (hl : l.length ≤ 4398046511103) (a : Int) : Ev (fun k => words_Next.f k l a) (goNext l a) := by
 refine Ev.bind (Ev.of_eq fun _ => outside_ev l a) ?_
 have hlen := wordsOf_length l
 unfold goNext
 by_cases h : a < 0 ∨ a > (l.length : Int)
 ·rw [if_pos h]
  exact Ev.of_eq fun _ => if_pos (decide_eq_true h)
 ·rw [if_neg h]
  refine Ev.congr (Ev.bind (h := fun k t => words_Next.l0 k l a t (t.length : Int) 0) (words_all_ev hl) (next_l0 l a (wordsOf l) (by omega) _ 0 rfl (by omega))) (fun k => ?_)
  exact if_neg (by rw [decide_eq_false h]; decide)
theorem words_prev_ev {l : List Int} (hl : l.length ≤ 4398046511103) (a : Int) : Ev (fun k => words_Prev.f k l a) (goPrev l a) := by
 refine Ev.bind (Ev.of_eq fun _ => outside_ev l a) ?_
 have hlen := wordsOf_length l
 unfold goPrev
 by_cases h : a < 0 ∨ a > (l.length : Int)
 ·rw [if_pos h]
  exact Ev.of_eq fun _ => if_pos (decide_eq_true h)
 ·rw [if_neg h]
  refine Ev.congr (Ev.bind (h := fun k t => words_Prev.l0 k a 0 t (t.length : Int) 0) (words_all_ev hl) (prev_l0 a (wordsOf l) (by omega) _ 0 0 rfl (by omega))) (fun k => ?_)
  exact if_neg (by rw [decide_eq_false h]; decide)
end Go.Proofs.YtijbkiajhicooaaDoor.PW
namespace Go.Proofs.YtijbkiajhicooaaDoor.Pure
open Go.Proofs.YtijbkiajhicooaaDoor.PW Go.RowKit
end Go.Proofs.YtijbkiajhicooaaDoor.Pure
namespace Go.Proofs.YtijbkiajhicooaaDoor.PW

end Go.Proofs.YtijbkiajhicooaaDoor.PW

namespace Go.Proofs.YtijbkiajhicooaaDoor.PW
open Go.RowKit Go.Proofs.YtijbkiajhicooaaDoorW.PrintWords Go.Proofs.YtijbkiajhicooaaDoorW.PrintLast Go.Proofs.YtijbkiajhicooaaDoorW.PrintMore
attribute [local go_sem] max2_int min2_int max_two min_two max_three min_three max_four min_four   -- for this text's walks alone
set_option linter.unusedVariables false
set_option linter.unusedSimpArgs false

def Up : Int → List S36 → Int → Prop
 | a, [], b => a ≤ b
 | a, h :: t, b => a ≤ h.f0 ∧ h.f0 < h.f1 ∧ Up h.f1 t b
theorem Up.weaken {c b : Int} : ∀ {ws : List S36} {a : Int}, Up a ws b → c ≤ a → Up c ws b
 | [], a, h, hc => Int.le_trans hc h
 | _ :: _, a, h, hc => ⟨Int.le_trans hc h.1, h.2⟩
theorem up_of_chain (p : S83 → Bool) : ∀ (rs : List S83) (a b : Int), Chain a rs b → Up a ((rs.filter p).map (·.f0)) b
 | [], a, b, h => Int.le_of_eq h
 | r :: rs, a, b, h => by
  have ih := up_of_chain p rs r.f0.f1 b h.2.2
  rw [List.filter_cons]
  by_cases g : p r = true
  ·rw [if_pos g]
   exact ⟨Int.le_of_eq h.1.symm, by rw [h.1]; exact h.2.1, ih⟩
  ·rw [if_neg g]
   exact ih.weaken (Int.le_of_lt h.2.1)
theorem up_facts : ∀ (ws : List S36) (a b : Int), Up a ws b → a ≤ b ∧ ws.Pairwise (fun x y => x.f0 < y.f0) ∧ ∀ h ∈ ws, a ≤ h.f0 ∧ h.f0 < b
 | [], a, b, h => ⟨h, .nil, fun x hx => by cases hx⟩
 | x :: t, a, b, h => by
  obtain ⟨h1, h2, h3⟩ := up_facts t x.f1 b h.2.2
  have g1 := h.1
  have g2 := h.2.1
  refine ⟨by omega, .cons (fun y hy => ?_) h2, fun y hy => ?_⟩
  ·have := (h3 y hy).1; omega
  ·rcases List.mem_cons.1 hy with rfl | hy
   ·exact ⟨g1, by omega⟩
   ·have := h3 y hy; exact ⟨by omega, this.2⟩
theorem words_up {l : List Int} (hb : Bytes l) (hl : l.length ≤ 4398046511103) : (wordsOf l).Pairwise (fun x y => x.f0 < y.f0) ∧ ∀ h ∈ wordsOf l, 0 ≤ h.f0 ∧ h.f0 < (l.length : Int) :=
 (up_facts _ _ _ (up_of_chain (fun r => r.f1 == 3) _ _ _ (runs_chain hb hl))).2
theorem nextOf_skip (len a : Int) (post : List S36) : ∀ (pre : List S36), (∀ h ∈ pre, h.f0 ≤ a) → nextOf len a (pre ++ post) = nextOf len a post
 | [], _ => rfl
 | h :: t, hh => by
  have h1 := hh h (by simp)
  simp only [List.cons_append, nextOf]
  rw [if_neg (by omega)]
  exact nextOf_skip len a post t (fun x hx => hh x (by simp [hx]))
theorem prevOf_append (a : Int) (y : List S36) : ∀ (x : List S36) (b : Int), prevOf a (x ++ y) b = prevOf a y (prevOf a x b)
 | [], b => rfl
 | h :: t, b => prevOf_append a y t _
theorem prevOf_far (a : Int) : ∀ (x : List S36) (b : Int), (∀ h ∈ x, a ≤ h.f0) → prevOf a x b = b
 | [], b, _ => rfl
 | h :: t, b, hh => by
  have h1 := hh h (by simp)
  simp only [prevOf]
  rw [if_neg (by omega)]
  exact prevOf_far a t b (fun x hx => hh x (by simp [hx]))
theorem goNext_in (l : List Int) (a : Int) (h0 : 0 ≤ a) (h1 : a ≤ (l.length : Int)) : goNext l a = (nextOf (l.length : Int) a (wordsOf l), 0) := by
 unfold goNext
 rw [if_neg (by omega)]
theorem goPrev_in (l : List Int) (a : Int) (h0 : 0 ≤ a) (h1 : a ≤ (l.length : Int)) : goPrev l a = (prevOf a (wordsOf l) 0, 0) := by
 unfold goPrev
 rw [if_neg (by omega)]
theorem fro_l1 {l : List Int} (hl : l.length ≤ 4398046511103) (hS : (wordsOf l).Pairwise (fun x y => x.f0 < y.f0)) (hR : ∀ h ∈ wordsOf l, 0 ≤ h.f0 ∧ h.f0 < (l.length : Int)) :
  ∀ (n : Nat) (pre post : List S36) (at_ : Int), wordsOf l = pre ++ post → pre.length = n → (∀ h ∈ post, at_ ≤ h.f0) → (∀ h ∈ pre, h.f0 < at_) → 0 ≤ at_ → at_ ≤ (l.length : Int) →
  Ev (fun k => galleylaw22_WordsToAndFro.l1 k l (wordsOf l) at_ ((pre.length : Int) - 1)) true := by
 have hlen := wordsOf_length l
 intro n
 induction n with
 | zero =>
  intro pre post a hw hp h1 h2 h3 h4
  obtain rfl : pre = [] := List.length_eq_zero_iff.1 hp
  have e : goPrev l a = (0, 0) := by
   rw [goPrev_in l a h3 h4, hw]
   exact congrArg (·, (0 : Int)) (prevOf_far a post 0 h1)
  refine Ev.succ (h := fun k => (galleylaw22_own.f l).bind fun t => (words_Prev.f k t a).bind fun b => if b.2 = 0 then some (b.1 == 0) else some false) ?_ (fun k => ?_)
  ·refine Ev.bind (Ev.of_eq fun _ => own_some l hl) ?_
   refine Ev.bind (words_prev_ev hl a) ?_
   rw [e]
   exact Ev.pure true
  ·rw [galleylaw22_WordsToAndFro.l1, if_neg (by decide)]
 | succ n ih =>
  intro pre post a hw hp h1 h2 h3 h4
  obtain ⟨pre', h, rfl⟩ : ∃ pre' h, pre = pre' ++ [h] := by
   rcases List.eq_nil_or_concat pre with rfl | ⟨x, y, hxy⟩
   ·simp at hp
   ·exact ⟨x, y, by rw [hxy, List.concat_eq_append]⟩
  have hlp : (pre' ++ [h]).length = pre'.length + 1 := by simp
  have hh := h2 h (by simp)
  have hr := hR h (by rw [hw]; simp)
  rw [hw] at hS
  have hS2 := List.pairwise_append.1 hS
  have hS3 := List.pairwise_append.1 hS2.1
  have e : goPrev l a = (h.f0, 0) := by
   rw [goPrev_in l a h3 h4, hw, prevOf_append, prevOf_far a post _ h1, prevOf_append]
   simp only [prevOf]
   rw [if_pos hh]
  have hlw : (wordsOf l).length = pre'.length + 1 + post.length := by rw [hw]; simp; omega
  have hi : pre'.length < (wordsOf l).length := by omega
  have hrd : rd_T36 (wordsOf l) (pre'.length : Int) = h := by
   rw [rd_hit _ _ hi]
   simp [hw]
  have hx : ((pre' ++ [h]).length : Int) - 1 = (pre'.length : Int) := by omega
  have hwr : wrap64 ((pre'.length : Int) - 1) = (pre'.length : Int) - 1 := wrap64_small (by omega) (by omega)
  have ihh := ih pre' (h :: post) h.f0 (by rw [hw]; simp) (by omega)
   (fun x hx => by
    rcases List.mem_cons.1 hx with rfl | hx
    ·exact Int.le_refl _
    ·exact Int.le_of_lt (hS2.2.2 h (by simp) x hx))
   (fun x hx => hS3.2.2 x hx h (by simp)) hr.1 (by omega)
  have c1 : (pre'.length : Int) ≥ 0 := by omega
  have c2 : (pre'.length : Int) < ((wordsOf l).length : Int) := by omega
  have c3 : ¬ h.f0 ≥ a := by omega
  rw [hx]
  refine Ev.succ (h := fun k => (galleylaw22_own.f l).bind fun t => (words_Prev.f k t a).bind fun b => if b.2 = 0 then (if b.1 = h.f0 then galleylaw22_WordsToAndFro.l1 k l (wordsOf l) b.1 ((pre'.length : Int) - 1) else some false) else some false) ?_ (fun k => ?_)
  ·refine Ev.bind (Ev.of_eq fun _ => own_some l hl) ?_
   refine Ev.bind (words_prev_ev hl a) ?_
   rw [e]
   simp only [if_true]
   exact ihh
  ·rw [galleylaw22_WordsToAndFro.l1, if_pos c1, if_pos c1, if_pos c2, hrd, if_neg c3, hwr]
theorem to_l0 {l : List Int} (hl : l.length ≤ 4398046511103) (hS : (wordsOf l).Pairwise (fun x y => x.f0 < y.f0)) (hR : ∀ h ∈ wordsOf l, 0 ≤ h.f0 ∧ h.f0 < (l.length : Int)) :
  ∀ (post pre : List S36) (at_ : Int), wordsOf l = pre ++ post → (∀ h ∈ pre, h.f0 ≤ at_) → (at_ = 0 ∨ ∀ h ∈ post, at_ < h.f0) → 0 ≤ at_ → at_ ≤ (l.length : Int) →
  Ev (fun k => galleylaw22_WordsToAndFro.l0 k l (wordsOf l) at_ (pre.length : Int)) true := by
 have hlen := wordsOf_length l
 intro post
 induction post with
 | nil =>
  intro pre a hw h1 h2 h3 h4
  rw [List.append_nil] at hw
  have e : goNext l a = ((l.length : Int), 0) := by
   rw [goNext_in l a h3 h4, hw]
   have := nextOf_skip (l.length : Int) a [] pre h1
   rw [List.append_nil] at this
   rw [this]
   rfl
  have hfro := fro_l1 hl hS hR (wordsOf l).length (wordsOf l) [] (l.length : Int) (by simp) rfl (fun x hx => by cases hx) (fun x hx => (hR x hx).2) (by omega) (Int.le_refl _)
  have hwr : wrap64 (((wordsOf l).length : Int) - 1) = ((wordsOf l).length : Int) - 1 := wrap64_small (by omega) (by omega)
  have hj : Ev (fun k => galleylaw22_WordsToAndFro.j1 k l (wordsOf l) false) true := by
   refine Ev.succ hfro (fun k => ?_)
   rw [galleylaw22_WordsToAndFro.j1, if_neg (by decide), hwr]
  have hn : ¬ (pre.length : Int) < ((wordsOf l).length : Int) := by rw [hw]; omega
  refine Ev.succ (h := fun k => (galleylaw22_own.f l).bind fun t => (words_Next.f k t a).bind fun b => if b.2 = 0 then galleylaw22_WordsToAndFro.j1 k l (wordsOf l) (b.1 != (l.length : Int)) else galleylaw22_WordsToAndFro.j1 k l (wordsOf l) true) ?_ (fun k => ?_)
  ·refine Ev.bind (Ev.of_eq fun _ => own_some l hl) ?_
   refine Ev.bind (words_next_ev hl a) ?_
   rw [e]
   simpa using hj
  ·rw [galleylaw22_WordsToAndFro.l0, if_neg hn]
 | cons h post ih =>
  intro pre a hw h1 h2 h3 h4
  have hr := hR h (by rw [hw]; simp)
  have hlw : (wordsOf l).length = pre.length + 1 + post.length := by rw [hw]; simp; omega
  have hi : pre.length < (wordsOf l).length := by omega
  have hrd : rd_T36 (wordsOf l) (pre.length : Int) = h := by
   rw [rd_hit _ _ hi]
   simp [hw]
  have hwr : wrap64 ((pre.length : Int) + 1) = ((pre ++ [h]).length : Int) := by rw [wrap64_small (by omega) (by omega)]; simp
  have hw2 : wordsOf l = (pre ++ [h]) ++ post := by rw [hw]; simp
  have c1 : 0 ≤ (pre.length : Int) := by omega
  have c2 : (pre.length : Int) < ((wordsOf l).length : Int) := by omega
  have hS1 := hS
  rw [hw] at hS1
  have hS2 := List.pairwise_append.1 hS1
  have hS3 := List.pairwise_cons.1 hS2.2.1
  by_cases hz : h.f0 = 0
  ·have hp0 : pre = [] := by
    cases pre with
    | nil => rfl
    | cons y t =>
     have := hS2.2.2 y (by simp) h (by simp)
     have := (hR y (by rw [hw]; simp)).1
     omega
   have ha0 : a = 0 := by
    rcases h2 with h2 | h2
    ·exact h2
    ·have := h2 h (by simp); omega
   refine Ev.succ (ih (pre ++ [h]) a hw2 (fun x hx => ?_) (.inl ha0) h3 h4) (fun k => ?_)
   ·rcases List.mem_append.1 hx with hx | hx
    ·exact h1 x hx
    ·obtain rfl := List.mem_singleton.1 hx
     omega
   ·rw [galleylaw22_WordsToAndFro.l0, if_pos c2, if_pos c1, hrd, if_pos hz, hwr]
  ·have hah : a < h.f0 := by
    rcases h2 with h2 | h2
    ·omega
    ·exact h2 h (by simp)
   have e : goNext l a = (h.f0, 0) := by
    rw [goNext_in l a h3 h4, hw, nextOf_skip _ _ _ pre h1]
    simp only [nextOf]
    rw [if_pos hah]
   have ihh := ih (pre ++ [h]) h.f0 hw2 (fun x hx => by
     rcases List.mem_append.1 hx with hx | hx
     ·have := h1 x hx; omega
     ·obtain rfl := List.mem_singleton.1 hx
      exact Int.le_refl _) (.inr fun x hx => hS3.1 x hx) hr.1 (by omega)
   refine Ev.succ (h := fun k => (galleylaw22_own.f l).bind fun t => (words_Next.f k t a).bind fun b => if b.2 = 0 then (if b.1 = h.f0 then galleylaw22_WordsToAndFro.l0 k l (wordsOf l) b.1 ((pre ++ [h]).length : Int) else some false) else some false) ?_ (fun k => ?_)
   ·refine Ev.bind (Ev.of_eq fun _ => own_some l hl) ?_
    refine Ev.bind (words_next_ev hl a) ?_
    rw [e]
    simp only [if_true]
    exact ihh
   ·rw [galleylaw22_WordsToAndFro.l0, if_pos c2, if_pos c1, hrd, if_neg hz, hwr]
end Go.Proofs.YtijbkiajhicooaaDoor.PW
namespace Go.Proofs.YtijbkiajhicooaaDoor.Pure
open Go.Proofs.YtijbkiajhicooaaDoor.PW Go.RowKit
theorem WordsToAndFro (l0 : List Int) (hl : l0.length ≤ 1048576) (hw : ∀ x ∈ l0, (Lit.int .u8 x).wf = true) : ∃ k, galleylaw22_WordsToAndFro.f k l0 = some true := by
 have hb := bytes_of_wf hw
 obtain ⟨hS, hR⟩ := words_up hb (show l0.length ≤ 4398046511103 by omega)
 refine Ev.some (Ev.bind (Ev.of_eq fun _ => rfl) ?_)
 refine Ev.bind (Ev.of_eq fun _ => own_some l0 (by omega)) ?_
 refine Ev.bind (words_all_ev (by omega)) ?_
 exact to_l0 (by omega) hS hR (wordsOf l0) [] 0 (by simp) (fun x hx => by cases hx) (.inl rfl) (Int.le_refl _) (by omega)
end Go.Proofs.YtijbkiajhicooaaDoor.Pure
namespace Go.Proofs.YtijbkiajhicooaaDoor.PW

end Go.Proofs.YtijbkiajhicooaaDoor.PW

