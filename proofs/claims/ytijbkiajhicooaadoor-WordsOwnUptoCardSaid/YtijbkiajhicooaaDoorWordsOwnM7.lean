-- Written by merge.py, a program of this session's: PWx46 PWx56
import Derived.Test.YtijbkiajhicooaaDoorWordsOwnM2
import Derived.Test.YtijbkiajhicooaaDoorWordsOwnM6
namespace Go.Proofs.YtijbkiajhicooaaDoor.PW
open Go.RowKit Go.Proofs.YtijbkiajhicooaaDoorW.PrintWords Go.Proofs.YtijbkiajhicooaaDoorW.PrintLast Go.Proofs.YtijbkiajhicooaaDoorW.PrintMore
attribute [local go_sem] max2_int min2_int max_two min_two max_three min_three max_four min_four   -- for this text's walks alone
set_option linter.unusedVariables false
set_option linter.unusedSimpArgs false

def galleyref22_All.l0 : Nat → List (S36) → List Int → List (S36) → Int → Option ((List (S36)))
 | 0, _, _, _, _ => none
 | k + 1, x3, x4, x5, x6 => if x6 < (x3.length : Int) then (if 0 ≤ x6 then (if x6 < (x4.length : Int) then (if (rd x4 x6) = 3 then (if x5.length < 8796093022208 then (galleyref22_All.l0 k x3 x4 (x5 ++ [(⟨(rd_T36 x3 x6).f0, (rd_T36 x3 x6).f1⟩ : S36)]) (wrap64 (x6 + 1))) else (none)) else (galleyref22_All.l0 k x3 x4 x5 (wrap64 (x6 + 1)))) else (none)) else (none)) else (some x5)
def galleyref22_All.f (k : Nat) (l0 : List Int) : Option ((List (S36))) := (galleyref22_Runs.f k l0).bind fun bt266 => (galleyref22_All.l0 k bt266.1 bt266.2 ([] : List (S36)) 0)
set_option maxHeartbeats 8000000 in
set_option maxRecDepth 100000 in
theorem galleyref22_All.calls (k : Nat) (A0 : Option Addr) (c0 : Nat) (l0 : List Int) (r : List (S36)) (w : World) (hr0 : Kd.C (Kd.int .u8) w A0 l0.length l0) (hc0 : l0.length ≤ c0) (h : galleyref22_All.f k l0 = some r) :
  Calls Tryd.prog 19 #[.slice A0 l0.length c0] w fun e w' => ∃ v0_ : Value, e = .returned (v0_) ∧ Kd.R k36 36 w' w.heap.size (fun _ => True) v0_ r ∧ Below w.heap.size w w' := by
 have hu36 := Tryd.underlying36
 have HR0 := Aside0.mk hr0
 have HC0 := Aside0.mk hc0
 clear hr0 hc0
 have HB := Aside0.mk (Below.refl w.heap.size w)
 have H : ((galleyref22_Runs.f k l0).bind fun bt266 => (galleyref22_All.l0 k bt266.1 bt266.2 ([] : List (S36)) 0)) = some r := h
 clear h
 replace H := Option.bind_eq_some_iff.mp H
 obtain ⟨⟨t266, t267⟩, A20, H⟩ := H
 replace H : (galleyref22_All.l0 k t266 t267 ([] : List (S36)) 0) = some r := H
 have A2 := Aside0.mk A20
 clear A20
 have H' := Aside0.mk H
 clear H
 go_enter Tryd.func19, Tryd.ntmps19
 go_wp2_with (first | ((with_reducible refine gate_callee (f := 43) rfl ?_); refine goesL_ (some 9) rfl rfl Tryd.func43 (by kernel_rfl) rfl #[.slice A0 l0.length c0] rfl (by (try simp only [List.map_toArray, List.map_cons, List.map_nil]); first | done | rfl | (simp only [List.length_drop, List.length_take]; rfl)) ?_; (with_reducible refine (galleyref22_Runs.calls k _ _ l0 t266 t267 _ ?side1 ?side2 A2.out).mono ?_); (case side1 => repeat (first | exact HR0.out | (with_reducible refine Kd.C_alloc ?_ _) | (with_reducible refine Kd.C_drewN ?_ _) | (with_reducible refine Kd.C_drew ?_))); (case side2 => exact HC0.out); rintro e w3 ⟨v268, v270, rfl, ho0, ho1, hb⟩; refine ⟨_, rfl, ?_⟩; have n0_ := Aside0.mk (Kd.R_lower ho0 (below_size (by repeat (first | (with_reducible first | exact HB.out | apply below_alloc | apply pw_below_drewN | apply below_drew1) | exact HB.out)))); have n1_ := Aside0.mk (Kd.R_lower ho1 (below_size (by repeat (first | (with_reducible first | exact HB.out | apply below_alloc | apply pw_below_drewN | apply below_drew1) | exact HB.out)))); have n2_ := Aside0.mk (below_step (by repeat (first | (with_reducible first | exact HB.out | apply below_alloc | apply pw_below_drewN | apply below_drew1) | exact HB.out)) hb); clear HB; have HO269 := n0_; have HO271 := n1_; have HB := n2_; clear n0_ n1_ n2_; (try clear hb); (try clear hb2); (try clear hk); (try clear hi); (try clear ho0); (try clear ho1)))
 go_loopg [5, 6] k (fun kq v5 v6 w' => ∃ (x5_1 : List (S36)) (x6_1 : Int), v6 = .int .i64 x6_1 ∧ Aside0 (galleyref22_All.l0 kq t266 t267 x5_1 x6_1 = some r) ∧ Aside0 (kq ≤ k) ∧ Aside0 (Kd.R k36 36 w' w.heap.size (fun k_ => some k_ ≠ (v5 : Value).ownBlock) v268 t266) ∧ Aside0 (Kd.R (Kd.int .i64) 3 w' w.heap.size (fun _ => True) v270 t267) ∧ Aside0 (Kd.R k36 36 w' w.heap.size (fun k_ => some k_ ≠ (v268 : Value).ownBlock) v5 x5_1) ∧ Aside0 (Below w.heap.size w w'))
 case atStart => exact ⟨(([] : List (S36))), (0), (by first | rfl | (simp; done) | (simp [*]; done)), H', ⟨Nat.le_refl _⟩, ⟨by (with_reducible repeat (first | apply Kd.R_alloc | apply Kd.R_drewN | apply Kd.R_drew)); exact Kd.R_mono HO269.out (fun _ hk => (by simp [Value.ownBlock]))⟩, ⟨by (with_reducible repeat (first | apply Kd.R_alloc | apply Kd.R_drewN | apply Kd.R_drew)); exact HO271.out⟩, ⟨by first | exact Kd.R_nil _ _ _ _ _ | exact Kd.N_nil _ _ _ _ _ | exact Kd.V_nil _ _ _ _ _ | exact Kd.Q_nil _ _ _ _ _ | exact Kd.S_nil _ _ _ _ _⟩, ⟨by repeat (first | (with_reducible first | exact HB.out | apply below_alloc | apply pw_below_drewN | apply below_drew1) | exact HB.out)⟩⟩
 case round =>
  clear H'
  try clear c1
  try clear p2
  obtain ⟨x5_1, x6_1, rfl, HA, HK1, HO_3, HO_4, HO_5, HB⟩ := hrel
  cases gk with
  | zero => exact absurd HA.out (by simp [galleyref22_All.l0])
  | succ k1 =>
   have H := HA.out
   clear HA
   simp only [galleyref22_All.l0] at H
   by_cases c4 : x6_1 < (t266.length : Int)
   ·rw [if_pos c4] at H
    have c4b0 : decide (x6_1 < (t266.length : Int)) = true := decide_eq_true c4
    clear c4
    by_cases c5 : 0 ≤ x6_1
    ·rw [if_pos c5] at H
     have c5b0 : decide (0 ≤ x6_1) = true := decide_eq_true c5
     clear c5
     by_cases c6 : x6_1 < (t267.length : Int)
     ·rw [if_pos c6] at H
      have c6b0 : decide (x6_1 < (t267.length : Int)) = true := decide_eq_true c6
      clear c6
      by_cases c7 : (rd t267 x6_1) = 3
      ·rw [if_pos c7] at H
       have c7b0 : ((rd t267 x6_1) == 3) = true := beq_iff_eq.mpr c7
       have c7b1 : ((rd t267 x6_1) != 3) = false := bne_eq_false_iff_eq.mpr c7
       clear c7
       by_cases c8 : x5_1.length < 8796093022208
       ·rw [if_pos c8] at H
        have LMc8 := Aside0.mk c8
        clear c8
        obtain ⟨y274, hy274⟩ : ∃ y_ : List (S36), y_ = (x5_1 ++ [(⟨(rd_T36 t266 x6_1).f0, (rd_T36 t266 x6_1).f1⟩ : S36)]) := ⟨_, rfl⟩
        replace H : (galleyref22_All.l0 k1 t266 t267 y274 (wrap64 (x6_1 + 1))) = some r := by first | (rw [hy274]; with_reducible exact H) | (have H2_ := (Option.bind_some _ _).symm.trans H; rw [hy274]; with_reducible exact H2_) | (have H2_ := (Option.bind_some _ _).symm.trans H; with_reducible exact H2_) | with_reducible exact H | (rw [hy274]; exact H) | exact H
        have Ny274 := Aside0.mk hy274
        clear hy274
        have H' := Aside0.mk H
        clear H
        obtain ⟨Ao9, co9, eo9⟩ := Kd.R_slice HO_3.out
        subst eo9
        obtain ⟨Ao10, co10, eo10⟩ := Kd.R_slice HO_4.out
        subst eo10
        have p272 : 0 ≤ (x6_1 : Int) := of_decide_eq_true (by first | (with_reducible assumption) | assumption)
        have q272 : x6_1 < (t267.length : Int) := of_decide_eq_true (by first | (with_reducible assumption) | assumption)
        obtain ⟨ad272, e272, hx272_0⟩ := Kd.at_int (Kd.R_reads' HO_4.out).2.2 x6_1 p272 q272
        cases e272
        replace p272 := eq_true p272
        replace q272 := eq_true q272
        have p273 : 0 ≤ (x6_1 : Int) := of_decide_eq_true (by first | (with_reducible assumption) | assumption)
        have q273 : x6_1 < (t266.length : Int) := of_decide_eq_true (by first | (with_reducible assumption) | assumption)
        obtain ⟨ad273, e273, hx273_0, hx273_1⟩ := at_T36 (Kd.R_reads' HO_3.out).2.2 x6_1 p273 q273
        cases e273
        replace p273 := eq_true p273
        replace q273 := eq_true q273
        go_wp2_with (first | ((with_reducible refine gate_builtin (b := .append) (xs := #[.tmp 23, .tmp 28]) rfl ?_); at_builtin; refine Kd.R_append k36 (w0 := w) w.heap.size rfl (.tmp 23) (.tmp 28) 31 36 (.agg #[(.int .i64 0), (.int .i64 0)]) 16 rfl Tryd.underlying31 info36 rfl (by decide) (by omega) u5 x5_1 (⟨(rd_T36 t266 x6_1).f0, (rd_T36 t266 x6_1).f1⟩ : S36) [.int .i64 ((rd_T36 t266 x6_1).f0), .int .i64 ((rd_T36 t266 x6_1).f1)] (fun k_ => some k_ ≠ (.slice (some ad273) t266.length co9 : Value).ownBlock) (fun _ => False) rfl rfl ?aP (fun _ hk => hk.elim) ?aF ?aO ?aB ?aS ?aL ?_; (case aP => exact k36_mkM _ _ _ (⟨(rd_T36 t266 x6_1).f0, (rd_T36 t266 x6_1).f1⟩ : S36)); (case aB => exact (by repeat (first | (with_reducible first | exact HB.out | apply below_alloc | apply pw_below_drewN | apply below_drew1) | exact HB.out))); (case aF => exact (fun k_ hk => Kd.fresh' (Kd.R_lt (by (with_reducible repeat (first | apply Kd.R_alloc | apply Kd.R_drewN | apply Kd.R_drew)); exact HO_3.out)) k_ hk)); (case aO => exact (by (with_reducible repeat (first | apply Kd.R_alloc | apply Kd.R_drewN | apply Kd.R_drew)); exact HO_5.out)); (case aS => exact (below_size (by repeat (first | (with_reducible first | exact HB.out | apply below_alloc | apply pw_below_drewN | apply below_drew1) | exact HB.out)))); (case aL => have := LMc8.out; omega); intro v275 w11 ho hb hg hat; rw [← Ny274.out] at ho; have n0_ := Aside0.mk (Kd.R_after (ok := (fun _ => True)) (by (with_reducible repeat (first | apply Kd.R_alloc | apply Kd.R_drewN | apply Kd.R_drew)); exact Kd.R_mono HO_3.out (fun _ hk => ⟨trivial, hk⟩)) hg hat); have n1_ := Aside0.mk (Kd.R_over' (by (with_reducible repeat (first | apply Kd.R_alloc | apply Kd.R_drewN | apply Kd.R_drew)); exact HO_4.out) (Kd.R_typed (by (with_reducible repeat (first | apply Kd.R_alloc | apply Kd.R_drewN | apply Kd.R_drew)); exact HO_5.out)) (by decide) hg); have n2_ := Aside0.mk (hb); have n3_ := Aside0.mk (ho); clear HO_3; clear HO_4; clear HB; clear HO_5; have HO_3 := n0_; have HO_4 := n1_; have HB := n2_; have HO276 := n3_; clear n0_ n1_ n2_ n3_; clear ho hb hg hat))
        go_roundg k1
        case measure => have := HK1.out; omega
        case rel => exact ⟨(y274), (wrap64 (x6_1 + 1)), (by first | rfl | (simp; done) | (simp [*]; done)), H', ⟨by have := HK1.out; omega⟩, ⟨by (with_reducible repeat (first | apply Kd.R_alloc | apply Kd.R_drewN | apply Kd.R_drew)); exact Kd.R_mono HO_3.out (fun _ hk => hk.2)⟩, ⟨by (with_reducible repeat (first | apply Kd.R_alloc | apply Kd.R_drewN | apply Kd.R_drew)); exact HO_4.out⟩, ⟨by (with_reducible repeat (first | apply Kd.R_alloc | apply Kd.R_drewN | apply Kd.R_drew)); exact HO276.out⟩, ⟨by repeat (first | (with_reducible first | exact HB.out | apply below_alloc | apply pw_below_drewN | apply below_drew1) | exact HB.out)⟩⟩
       ·rw [if_neg c8] at H
        exact absurd H (by simp)
      ·rw [if_neg c7] at H
       have c7b0 : ((rd t267 x6_1) == 3) = false := beq_eq_false_iff_ne.mpr c7
       have c7b1 : ((rd t267 x6_1) != 3) = true := bne_iff_ne.mpr c7
       have H' := Aside0.mk H
       clear H
       obtain ⟨Ao12, co12, eo12⟩ := Kd.R_slice HO_3.out
       subst eo12
       obtain ⟨Ao13, co13, eo13⟩ := Kd.R_slice HO_4.out
       subst eo13
       have p272 : 0 ≤ (x6_1 : Int) := of_decide_eq_true (by first | (with_reducible assumption) | assumption)
       have q272 : x6_1 < (t267.length : Int) := of_decide_eq_true (by first | (with_reducible assumption) | assumption)
       obtain ⟨ad272, e272, hx272_0⟩ := Kd.at_int (Kd.R_reads' HO_4.out).2.2 x6_1 p272 q272
       cases e272
       replace p272 := eq_true p272
       replace q272 := eq_true q272
       go_wp2
       go_roundg k1
       case measure => have := HK1.out; omega
       case rel => exact ⟨(x5_1), (wrap64 (x6_1 + 1)), (by first | rfl | (simp; done) | (simp [*]; done)), H', ⟨by have := HK1.out; omega⟩, ⟨by (with_reducible repeat (first | apply Kd.R_alloc | apply Kd.R_drewN | apply Kd.R_drew)); exact HO_3.out⟩, ⟨by (with_reducible repeat (first | apply Kd.R_alloc | apply Kd.R_drewN | apply Kd.R_drew)); exact HO_4.out⟩, ⟨by (with_reducible repeat (first | apply Kd.R_alloc | apply Kd.R_drewN | apply Kd.R_drew)); exact HO_5.out⟩, ⟨by repeat (first | (with_reducible first | exact HB.out | apply below_alloc | apply pw_below_drewN | apply below_drew1) | exact HB.out)⟩⟩
     ·rw [if_neg c6] at H
      exact absurd H (by simp)
    ·rw [if_neg c5] at H
     exact absurd H (by simp)
   ·rw [if_neg c4] at H
    have c4b0 : decide (x6_1 < (t266.length : Int)) = false := decide_eq_false c4
    clear c4
    obtain rfl := Option.some.inj H
    obtain ⟨Ao14, co14, eo14⟩ := Kd.R_slice HO_3.out
    subst eo14
    go_wp2
    go_ret
    exact ⟨_, by first | rfl | (simp [errW_none, errW_some] <;> rfl) | (simp [*, errW_none, errW_some] <;> rfl), by (with_reducible repeat (first | apply Kd.R_alloc | apply Kd.R_drewN | apply Kd.R_drew)); exact Kd.R_mono HO_5.out (fun _ hk => trivial), by repeat (first | (with_reducible first | exact HB.out | apply below_alloc | apply pw_below_drewN | apply below_drew1) | exact HB.out)⟩

end Go.Proofs.YtijbkiajhicooaaDoor.PW

namespace Go.Proofs.YtijbkiajhicooaaDoor.PW
open Go.RowKit Go.Proofs.YtijbkiajhicooaaDoorW.PrintWords Go.Proofs.YtijbkiajhicooaaDoorW.PrintLast Go.Proofs.YtijbkiajhicooaaDoorW.PrintMore
attribute [local go_sem] max2_int min2_int max_two min_two max_three min_three max_four min_four   -- for this text's walks alone
set_option linter.unusedVariables false
set_option linter.unusedSimpArgs false

mutual
def galleyref22_Wrap.j0 : Nat → List Int → Int → Bool → Option (List Int × Int)
 | 0, _, _, _ => none
 | k + 1, x0, x1, x17 => if x17 = true then (some (([] : List Int), 2)) else ((galleyref22_Of.f k x0).bind fun bt367 => (galleyref22_Wrap.l0 k x1 (bt367.2.length : Int) ([] : List Int) 0 bt367.1 bt367.2))
def galleyref22_Wrap.l0 : Nat → Int → Int → List Int → Int → List Int → List Int → Option (List Int × Int)
 | 0, _, _, _, _, _, _ => none
 | k + 1, x1, x7, x8, x9, x374000, x374001 => if x9 < x7 then (galleyref22_Wrap.l1 k x1 x7 x8 x9 x9 x374000 x374001) else (some (x8, 0))
def galleyref22_Wrap.j3 : Nat → Int → Int → List Int → Int → Int → List Int → List Int → Option (List Int × Int)
 | 0, _, _, _, _, _, _, _ => none
 | k + 1, x1, x7, x8, x9, x10, x374000, x374001 => galleyref22_Wrap.l2 k x1 x7 x8 x9 x10 x374000 x374001
def galleyref22_Wrap.l2 : Nat → Int → Int → List Int → Int → Int → List Int → List Int → Option (List Int × Int)
 | 0, _, _, _, _, _, _, _ => none
 | k + 1, x1, x7, x8, x9, x10, x374000, x374001 => if (wrap64 (x10 - x9)) > x1 then (galleyref22_Wrap.l3 k x1 x7 x8 x9 x10 (wrap64 (x9 + x1)) x374000 x374001) else (galleyref22_Wrap.l0 k x1 x7 x8 (wrap64 (x10 + 1)) x374000 x374001)
def galleyref22_Wrap.l3 : Nat → Int → Int → List Int → Int → Int → Int → List Int → List Int → Option (List Int × Int)
 | 0, _, _, _, _, _, _, _, _ => none
 | k + 1, x1, x7, x8, x9, x10, x11, x374000, x374001 => if x11 > x9 then (if 0 ≤ (wrap64 (x11 - 1)) then (if (wrap64 (x11 - 1)) < (x374001.length : Int) then (if (rd x374001 (wrap64 (x11 - 1))) = 1 then (if x11 = x9 then (if 0 ≤ (wrap64 (x9 + x1)) then (if (wrap64 (x9 + x1)) < (x374000.length : Int) then (if x8.length < 17592186044416 then (galleyref22_Wrap.l2 k x1 x7 (x8 ++ [rd x374000 (wrap64 (x9 + x1))]) (wrap64 (x9 + x1)) x10 x374000 x374001) else (none)) else (none)) else (none)) else (if 0 ≤ x11 then (if x11 < (x374000.length : Int) then (if x8.length < 17592186044416 then (galleyref22_Wrap.l2 k x1 x7 (x8 ++ [rd x374000 x11]) x11 x10 x374000 x374001) else (none)) else (none)) else (none))) else (galleyref22_Wrap.l3 k x1 x7 x8 x9 x10 (wrap64 (x11 - 1)) x374000 x374001)) else (none)) else (none)) else (if x11 = x9 then (if 0 ≤ (wrap64 (x9 + x1)) then (if (wrap64 (x9 + x1)) < (x374000.length : Int) then (if x8.length < 17592186044416 then (galleyref22_Wrap.l2 k x1 x7 (x8 ++ [rd x374000 (wrap64 (x9 + x1))]) (wrap64 (x9 + x1)) x10 x374000 x374001) else (none)) else (none)) else (none)) else (if 0 ≤ x11 then (if x11 < (x374000.length : Int) then (if x8.length < 17592186044416 then (galleyref22_Wrap.l2 k x1 x7 (x8 ++ [rd x374000 x11]) x11 x10 x374000 x374001) else (none)) else (none)) else (none)))
def galleyref22_Wrap.l1 : Nat → Int → Int → List Int → Int → Int → List Int → List Int → Option (List Int × Int)
 | 0, _, _, _, _, _, _, _ => none
 | k + 1, x1, x7, x8, x9, x10, x374000, x374001 => if x10 < x7 then (if 0 ≤ x10 then (if x10 < (x374001.length : Int) then (if (rd x374001 x10) = 2 then (galleyref22_Wrap.j3 k x1 x7 x8 x9 x10 x374000 x374001) else (galleyref22_Wrap.l1 k x1 x7 x8 x9 (wrap64 (x10 + 1)) x374000 x374001)) else (none)) else (none)) else (galleyref22_Wrap.j3 k x1 x7 x8 x9 x10 x374000 x374001)
end
def galleyref22_Wrap.f (k : Nat) (l0 : List Int) (a1 : Int) : Option (List Int × Int) := if a1 < 1 then (galleyref22_Wrap.j0 k l0 a1 true) else (galleyref22_Wrap.j0 k l0 a1 (decide (a1 > 65536)))
set_option maxHeartbeats 8000000 in
set_option maxRecDepth 100000 in
theorem galleyref22_Wrap.calls (k : Nat) (A0 : Option Addr) (c0 : Nat) (l0 : List Int) (a1 : Int) (r1 : List Int) (r2 : Int) (w : World) (hr0 : Kd.C (Kd.int .u8) w A0 l0.length l0) (hc0 : l0.length ≤ c0) (h : galleyref22_Wrap.f k l0 a1 = some (r1, r2)) :
  Calls Tryd.prog 37 #[.slice A0 l0.length c0, .int .i64 a1] w fun e w' => ∃ v0_ : Value, e = .returned (.tuple #[v0_, .int .i64 r2]) ∧ Kd.R (Kd.int .i64) 3 w' w.heap.size (fun _ => True) v0_ r1 ∧ Below w.heap.size w w' := by
 have hu96 := Tryd.underlying96
 have HR0 := Aside0.mk hr0
 have HC0 := Aside0.mk hc0
 clear hr0 hc0
 have HB := Aside0.mk (Below.refl w.heap.size w)
 have H : (if a1 < 1 then (galleyref22_Wrap.j0 k l0 a1 true) else (galleyref22_Wrap.j0 k l0 a1 (decide (a1 > 65536)))) = some (r1, r2) := h
 clear h
 have HC3 := Aside0.mk H
 clear H
 go_enter Tryd.func37, Tryd.ntmps37
 go_upto_region 1 with (fail)
 go_cut [17] (fun v17 wc => ∃ (kq : Nat) (x17_2 : Bool), v17 = .bool x17_2 ∧ Aside0 (galleyref22_Wrap.j0 kq l0 a1 x17_2 = some (r1, r2)) ∧ Aside0 (kq ≤ k) ∧ Aside0 (Below w.heap.size w wc))
 case first =>
  have H := HC3.out
  clear HC3
  by_cases c4 : a1 < 1
  ·rw [if_pos c4] at H
   have c4b0 : decide (a1 < 1) = true := decide_eq_true c4
   clear c4
   (first | rw [c4b0] | (simp only [i64_w, i32_w]; rw [c4b0]) | skip)
   have H' := Aside0.mk H
   clear H
   go_wp2
   go_meet
   case rel => exact ⟨_, (true), (by first | rfl | (simp; done) | (simp [*]; done)), H', ⟨by first | omega | exact Nat.le_refl _⟩, ⟨by repeat (first | (with_reducible first | exact HB.out | apply below_alloc | apply pw_below_drewN | apply below_drew1) | exact HB.out)⟩⟩
  ·rw [if_neg c4] at H
   have c4b0 : decide (a1 < 1) = false := decide_eq_false c4
   clear c4
   (first | rw [c4b0] | (simp only [i64_w, i32_w]; rw [c4b0]) | skip)
   have H' := Aside0.mk H
   clear H
   go_wp2
   go_meet
   case rel => exact ⟨_, (decide (a1 > 65536)), (by first | rfl | (simp; done) | (simp [*]; done)), H', ⟨by first | omega | exact Nat.le_refl _⟩, ⟨by repeat (first | (with_reducible first | exact HB.out | apply below_alloc | apply pw_below_drewN | apply below_drew1) | exact HB.out)⟩⟩
 case rest =>
  clear HC3
  try clear p2
  try clear c3
  try clear c4
  try clear c4b0
  obtain ⟨kq, x17_2, rfl, HA, HJ2, HB⟩ := hcut
  cases kq with
  | zero => exact absurd HA.out (by simp [galleyref22_Wrap.j0])
  | succ kj2 =>
   have H := HA.out
   clear HA
   simp only [galleyref22_Wrap.j0] at H
   by_cases c5 : x17_2 = true
   ·subst c5
    have H1 : (some (([] : List Int), 2)) = some (r1, r2) := by rw [if_pos rfl] at H; exact H
    clear H
    have H := H1
    clear H1
    simp only [Option.some.injEq, Prod.mk.injEq] at H
    obtain ⟨rfl, rfl⟩ := H
    go_wp2
    go_ret2
    exact ⟨_, by first | rfl | (simp [errW_none, errW_some] <;> rfl) | (simp [*, errW_none, errW_some] <;> rfl), by first | exact Kd.R_nil _ _ _ _ _ | exact Kd.N_nil _ _ _ _ _ | exact Kd.V_nil _ _ _ _ _ | exact Kd.Q_nil _ _ _ _ _ | exact Kd.S_nil _ _ _ _ _, by repeat (first | (with_reducible first | exact HB.out | apply below_alloc | apply pw_below_drewN | apply below_drew1) | exact HB.out)⟩
   ·replace c5 := Bool.eq_false_iff.mpr c5
    subst c5
    have H1 : ((galleyref22_Of.f kj2 l0).bind fun bt367 => (galleyref22_Wrap.l0 kj2 a1 (bt367.2.length : Int) ([] : List Int) 0 bt367.1 bt367.2)) = some (r1, r2) := by rw [if_neg (show ¬ (false = true) by decide)] at H; exact H
    clear H
    have H := H1
    clear H1
    replace H := Option.bind_eq_some_iff.mp H
    obtain ⟨⟨t367, t370⟩, A60, H⟩ := H
    replace H : (galleyref22_Wrap.l0 kj2 a1 (t370.length : Int) ([] : List Int) 0 t367 t370) = some (r1, r2) := H
    have A6 := Aside0.mk A60
    clear A60
    have H' := Aside0.mk H
    clear H
    go_wp2_with (first | ((with_reducible refine gate_callee (f := 48) rfl ?_); refine goesL_ (some 19) rfl rfl Tryd.func48 (by kernel_rfl) rfl #[.slice A0 l0.length c0] rfl (by (try simp only [List.map_toArray, List.map_cons, List.map_nil]); first | done | rfl | (simp only [List.length_drop, List.length_take]; rfl)) ?_; (with_reducible refine (galleyref22_Of.calls kj2 _ _ l0 t367 t370 _ ?side1 ?side2 A6.out).mono ?_); (case side1 => repeat (first | exact (Kd.C_below HR0.out HB.out) | (with_reducible refine Kd.C_alloc ?_ _) | (with_reducible refine Kd.C_drewN ?_ _) | (with_reducible refine Kd.C_drew ?_))); (case side2 => exact HC0.out); rintro e w7 ⟨v368, v371, rfl, ho0, ho1, hb⟩; refine ⟨_, rfl, ?_⟩; have n0_ := Aside0.mk (Kd.R_lower ho0 (below_size (by repeat (first | (with_reducible first | exact HB.out | apply below_alloc | apply pw_below_drewN | apply below_drew1) | exact HB.out)))); have n1_ := Aside0.mk (Kd.R_lower ho1 (below_size (by repeat (first | (with_reducible first | exact HB.out | apply below_alloc | apply pw_below_drewN | apply below_drew1) | exact HB.out)))); have n2_ := Aside0.mk (below_step (by repeat (first | (with_reducible first | exact HB.out | apply below_alloc | apply pw_below_drewN | apply below_drew1) | exact HB.out)) hb); clear HB; have HO369 := n0_; have HO372 := n1_; have HB := n2_; clear n0_ n1_ n2_; (try clear hb); (try clear hb2); (try clear hk); (try clear hi); (try clear ho0); (try clear ho1)) | ((with_reducible refine gate_dst (N := 6) rfl ?_); refine box_event ?hg (N := 6) ?hd (cs := #[.slice none 0 0, .slice none 0 0]) (t := 96) ?hr ?_; (case hd => rfl); (case hg => rfl); (case hr => first | (go_simp; done) | (go_simp; rfl)); intro gb373 hg w8 hbox hb; have n0_ := Aside0.mk (Kd.R_below (by (with_reducible repeat (first | apply Kd.R_alloc | apply Kd.R_drewN | apply Kd.R_drew)); exact HO369.out) hb); have n1_ := Aside0.mk (Kd.R_below (by (with_reducible repeat (first | apply Kd.R_alloc | apply Kd.R_drewN | apply Kd.R_drew)); exact HO372.out) hb); have n2_ := Aside0.mk (below_step (by repeat (first | (with_reducible first | exact HB.out | apply below_alloc | apply pw_below_drewN | apply below_drew1) | exact HB.out)) hb); have n3_ := Aside0.mk (hbox); have n4_ := Aside0.mk ((by rw [hg]; exact (below_size (by repeat (first | (with_reducible first | exact HB.out | apply below_alloc | apply pw_below_drewN | apply below_drew1) | exact HB.out))) : w.heap.size ≤ gb373)); have n5_ := Aside0.mk ((by rw [hg]; exact (below_size (by repeat (first | (with_reducible first | exact HB.out | apply below_alloc | apply pw_below_drewN | apply below_drew1) | exact HB.out))) : w.heap.size ≤ gb373)); clear HO369; clear HO372; clear HB; have HO369 := n0_; have HO372 := n1_; have HB := n2_; have BK373 := n3_; have GW373 := n4_; have GE373 := n5_; clear n0_ n1_ n2_ n3_ n4_ n5_; clear hb hbox hg; obtain ⟨Ao9, co9, eo9⟩ := Kd.R_slice HO369.out; subst eo9; have hcz10_0 : w8.cell? ⟨gb373, 0, none⟩ = some (.slice none 0 0) := (blk_cell BK373.out 0).trans rfl; have hcz10_1 : w8.cell? ⟨gb373, 1, none⟩ = some (.slice none 0 0) := (blk_cell BK373.out 1).trans rfl; have hfz10_0 := blk_frozen BK373.out 0; have hfz10_1 := blk_frozen BK373.out 1; obtain ⟨Ao11, co11, eo11⟩ := Kd.R_slice HO372.out; subst eo11))
    go_loopg [8, 9] kj2 (fun kq v8 v9 w' => ∃ (x8_2 : List Int) (x9_2 : Int), v9 = .int .i64 x9_2 ∧ Aside0 (galleyref22_Wrap.l0 kq a1 (t370.length : Int) x8_2 x9_2 t367 t370 = some (r1, r2)) ∧ Aside0 (kq ≤ kj2) ∧ Aside0 (Kd.R (Kd.int .i64) 3 w' w.heap.size (fun k_ => some k_ ≠ ((.slice Ao9 t367.length co9) : Value).ownBlock ∧ some k_ ≠ ((.slice Ao11 t370.length co11) : Value).ownBlock) v8 x8_2) ∧ Aside0 (Kd.R (Kd.int .i64) 3 w' w.heap.size (fun k_ => some k_ ≠ (v8 : Value).ownBlock ∧ some k_ ≠ ((.slice Ao11 t370.length co11) : Value).ownBlock) (.slice Ao9 t367.length co9) t367) ∧ Aside0 (Kd.R (Kd.int .i64) 3 w' w.heap.size (fun k_ => some k_ ≠ (v8 : Value).ownBlock ∧ some k_ ≠ ((.slice Ao9 t367.length co9) : Value).ownBlock) (.slice Ao11 t370.length co11) t370) ∧ Aside0 (w'.heap[gb373]? = some (.cells #[(.slice Ao9 t367.length co9), (.slice Ao11 t370.length co11)] 96 (0, 0))) ∧ Aside0 (Below w.heap.size w w'))
    case atStart => exact ⟨(([] : List Int)), (0), (by first | rfl | (simp; done) | (simp [*]; done)), H', ⟨Nat.le_refl _⟩, ⟨by first | exact Kd.R_nil _ _ _ _ _ | exact Kd.N_nil _ _ _ _ _ | exact Kd.V_nil _ _ _ _ _ | exact Kd.Q_nil _ _ _ _ _ | exact Kd.S_nil _ _ _ _ _⟩, ⟨by (with_reducible repeat (first | apply Kd.R_alloc | apply Kd.R_drewN | apply Kd.R_drew)); exact Kd.R_mono (Kd.R_far (p := ⟨gb373, 1, none⟩) (Kd.R_far (p := ⟨gb373, 0, none⟩) (Kd.R_types HO369.out BK373.out (by decide)) (fun _ hk => hk.2) (.slice Ao9 t367.length co9)) (fun _ hk => hk.2) (.slice Ao11 t370.length co11)) (fun _ hk => ⟨(by simp [Value.ownBlock]), hk.1⟩)⟩, ⟨by (with_reducible repeat (first | apply Kd.R_alloc | apply Kd.R_drewN | apply Kd.R_drew)); exact Kd.R_mono (Kd.R_far (p := ⟨gb373, 1, none⟩) (Kd.R_far (p := ⟨gb373, 0, none⟩) (Kd.R_types HO372.out BK373.out (by decide)) (fun _ hk => hk.2) (.slice Ao9 t367.length co9)) (fun _ hk => hk.2) (.slice Ao11 t370.length co11)) (fun _ hk => ⟨(by simp [Value.ownBlock]), hk.1⟩)⟩, ⟨by (with_reducible repeat (first | refine blk_drewN ?_ _ | refine blk_drew ?_ | refine blk_alloc ?_ _)); refine blk_put (cs := #[.slice Ao9 t367.length co9, .slice none 0 0]) ?_ 1 _ rfl; (with_reducible repeat (first | refine blk_drewN ?_ _ | refine blk_drew ?_ | refine blk_alloc ?_ _)); refine blk_put (cs := #[.slice none 0 0, .slice none 0 0]) ?_ 0 _ rfl; (with_reducible repeat (first | refine blk_drewN ?_ _ | refine blk_drew ?_ | refine blk_alloc ?_ _)); exact BK373.out⟩, ⟨by repeat (first | (with_reducible first | exact HB.out | apply below_alloc | apply pw_below_drewN | apply below_drew1 | refine below_set ?_ GE373.out) | exact HB.out)⟩⟩
    case round =>
     clear H'
     try clear p2
     try clear c3
     try clear c4
     try clear c4b0
     try clear c5
     try clear hcz10_0
     try clear hcz10_1
     try clear hfz10_0
     try clear hfz10_1
     try clear p2
     obtain ⟨x8_2, x9_2, rfl, HA, HK2, HO_8, HO_374000, HO_374001, BK373, HB⟩ := hrel
     cases gk with
     | zero => exact absurd HA.out (by simp [galleyref22_Wrap.l0])
     | succ k2 =>
      have H := HA.out
      clear HA
      simp only [galleyref22_Wrap.l0] at H
      by_cases c12 : x9_2 < (t370.length : Int)
      ·rw [if_pos c12] at H
       have c12b0 : decide (x9_2 < (t370.length : Int)) = true := decide_eq_true c12
       clear c12
       have HC13 := Aside0.mk H
       clear H
       go_upto_block 2 with (fail)
       go_cut [10] (fun v10 wc => ∃ (kq : Nat) (x10_12 : Int), v10 = .int .i64 x10_12 ∧ Aside0 (galleyref22_Wrap.j3 kq a1 (t370.length : Int) x8_2 x9_2 x10_12 t367 t370 = some (r1, r2)) ∧ Aside0 (kq ≤ k2) ∧ Aside0 (Kd.R (Kd.int .i64) 3 wc w.heap.size (fun k_ => some k_ ≠ ((.slice Ao9 t367.length co9) : Value).ownBlock ∧ some k_ ≠ ((.slice Ao11 t370.length co11) : Value).ownBlock) u8 x8_2) ∧ Aside0 (Kd.R (Kd.int .i64) 3 wc w.heap.size (fun k_ => some k_ ≠ (u8 : Value).ownBlock ∧ some k_ ≠ ((.slice Ao11 t370.length co11) : Value).ownBlock) (.slice Ao9 t367.length co9) t367) ∧ Aside0 (Kd.R (Kd.int .i64) 3 wc w.heap.size (fun k_ => some k_ ≠ (u8 : Value).ownBlock ∧ some k_ ≠ ((.slice Ao9 t367.length co9) : Value).ownBlock) (.slice Ao11 t370.length co11) t370) ∧ Aside0 (wc.heap[gb373]? = some (.cells #[(.slice Ao9 t367.length co9), (.slice Ao11 t370.length co11)] 96 (0, 0))) ∧ Aside0 (Below w.heap.size w wc))
       case first =>
        have H := HC13.out
        clear HC13
        have H' := Aside0.mk H
        clear H
        go_wp2
        go_loopg [10] k2 (fun kq v10 w' => ∃ (x10_3 : Int), v10 = .int .i64 x10_3 ∧ Aside0 (galleyref22_Wrap.l1 kq a1 (t370.length : Int) x8_2 x9_2 x10_3 t367 t370 = some (r1, r2)) ∧ Aside0 (kq ≤ k2) ∧ Aside0 (Kd.R (Kd.int .i64) 3 w' w.heap.size (fun k_ => some k_ ≠ ((.slice Ao9 t367.length co9) : Value).ownBlock ∧ some k_ ≠ ((.slice Ao11 t370.length co11) : Value).ownBlock) u8 x8_2) ∧ Aside0 (Kd.R (Kd.int .i64) 3 w' w.heap.size (fun k_ => some k_ ≠ (u8 : Value).ownBlock ∧ some k_ ≠ ((.slice Ao11 t370.length co11) : Value).ownBlock) (.slice Ao9 t367.length co9) t367) ∧ Aside0 (Kd.R (Kd.int .i64) 3 w' w.heap.size (fun k_ => some k_ ≠ (u8 : Value).ownBlock ∧ some k_ ≠ ((.slice Ao9 t367.length co9) : Value).ownBlock) (.slice Ao11 t370.length co11) t370) ∧ Aside0 (w'.heap[gb373]? = some (.cells #[(.slice Ao9 t367.length co9), (.slice Ao11 t370.length co11)] 96 (0, 0))) ∧ Aside0 (Below w.heap.size w w'))
        case atStart => exact ⟨(x9_2), (by first | rfl | (simp; done) | (simp [*]; done)), H', ⟨Nat.le_refl _⟩, ⟨by (with_reducible repeat (first | apply Kd.R_alloc | apply Kd.R_drewN | apply Kd.R_drew)); exact HO_8.out⟩, ⟨by (with_reducible repeat (first | apply Kd.R_alloc | apply Kd.R_drewN | apply Kd.R_drew)); exact HO_374000.out⟩, ⟨by (with_reducible repeat (first | apply Kd.R_alloc | apply Kd.R_drewN | apply Kd.R_drew)); exact HO_374001.out⟩, ⟨by (with_reducible repeat (first | refine blk_drewN ?_ _ | refine blk_drew ?_ | refine blk_alloc ?_ _)); exact BK373.out⟩, ⟨by repeat (first | (with_reducible first | exact HB.out | apply below_alloc | apply pw_below_drewN | apply below_drew1 | refine below_set ?_ GE373.out) | exact HB.out)⟩⟩
        case round =>
         clear H'
         try clear c1
         try clear p2
         try clear c3
         try clear c4
         try clear c4b0
         try clear c5
         try clear c12
         try clear c12b0
         try clear hcz10_0
         try clear hcz10_1
         try clear hfz10_0
         try clear hfz10_1
         try clear p2
         obtain ⟨x10_3, rfl, HA, HK3, HO_8, HO_374000, HO_374001, BK373, HB⟩ := hrel
         cases gk with
         | zero => exact absurd HA.out (by simp [galleyref22_Wrap.l1])
         | succ k3 =>
          have H := HA.out
          clear HA
          simp only [galleyref22_Wrap.l1] at H
          by_cases c14 : x10_3 < (t370.length : Int)
          ·rw [if_pos c14] at H
           have c14b0 : decide (x10_3 < (t370.length : Int)) = true := decide_eq_true c14
           clear c14
           (first | rw [c14b0] | (simp only [i64_w, i32_w]; rw [c14b0]) | skip)
           by_cases c15 : 0 ≤ x10_3
           ·rw [if_pos c15] at H
            have c15b0 : decide (0 ≤ x10_3) = true := decide_eq_true c15
            clear c15
            by_cases c16 : x10_3 < (t370.length : Int)
            ·rw [if_pos c16] at H
             have c16b0 : decide (x10_3 < (t370.length : Int)) = true := decide_eq_true c16
             clear c16
             by_cases c17 : (rd t370 x10_3) = 2
             ·rw [if_pos c17] at H
              have c17b0 : ((rd t370 x10_3) == 2) = true := beq_iff_eq.mpr c17
              have c17b1 : ((rd t370 x10_3) != 2) = false := bne_eq_false_iff_eq.mpr c17
              clear c17
              have H' := Aside0.mk H
              clear H
              have hcz18_0 : wr.cell? ⟨gb373, 0, none⟩ = some (.slice Ao9 t367.length co9) := (blk_cell BK373.out 0).trans rfl
              have hcz18_1 : wr.cell? ⟨gb373, 1, none⟩ = some (.slice Ao11 t370.length co11) := (blk_cell BK373.out 1).trans rfl
              have hfz18_0 := blk_frozen BK373.out 0
              have hfz18_1 := blk_frozen BK373.out 1
              have p374 : 0 ≤ (x10_3 : Int) := of_decide_eq_true (by first | (with_reducible assumption) | assumption)
              have q374 : x10_3 < (t370.length : Int) := of_decide_eq_true (by first | (with_reducible assumption) | assumption)
              obtain ⟨ad374, e374, hx374_0⟩ := Kd.at_int (Kd.R_reads' HO_374001.out).2.2 x10_3 p374 q374
              cases e374
              replace p374 := eq_true p374
              replace q374 := eq_true q374
              go_wp2
              go_meet
              case rel => exact ⟨_, (x10_3), (by first | rfl | (simp; done) | (simp [*]; done)), H', ⟨by have := HJ2.out; have := HK2.out; have := HK3.out; first | omega | exact Nat.le_refl _⟩, ⟨by (with_reducible repeat (first | apply Kd.R_alloc | apply Kd.R_drewN | apply Kd.R_drew)); exact HO_8.out⟩, ⟨by (with_reducible repeat (first | apply Kd.R_alloc | apply Kd.R_drewN | apply Kd.R_drew)); exact HO_374000.out⟩, ⟨by (with_reducible repeat (first | apply Kd.R_alloc | apply Kd.R_drewN | apply Kd.R_drew)); exact HO_374001.out⟩, ⟨by (with_reducible repeat (first | refine blk_drewN ?_ _ | refine blk_drew ?_ | refine blk_alloc ?_ _)); exact BK373.out⟩, ⟨by repeat (first | (with_reducible first | exact HB.out | apply below_alloc | apply pw_below_drewN | apply below_drew1 | refine below_set ?_ GE373.out) | exact HB.out)⟩⟩
             ·rw [if_neg c17] at H
              have c17b0 : ((rd t370 x10_3) == 2) = false := beq_eq_false_iff_ne.mpr c17
              have c17b1 : ((rd t370 x10_3) != 2) = true := bne_iff_ne.mpr c17
              have H' := Aside0.mk H
              clear H
              have hcz19_0 : wr.cell? ⟨gb373, 0, none⟩ = some (.slice Ao9 t367.length co9) := (blk_cell BK373.out 0).trans rfl
              have hcz19_1 : wr.cell? ⟨gb373, 1, none⟩ = some (.slice Ao11 t370.length co11) := (blk_cell BK373.out 1).trans rfl
              have hfz19_0 := blk_frozen BK373.out 0
              have hfz19_1 := blk_frozen BK373.out 1
              have p374 : 0 ≤ (x10_3 : Int) := of_decide_eq_true (by first | (with_reducible assumption) | assumption)
              have q374 : x10_3 < (t370.length : Int) := of_decide_eq_true (by first | (with_reducible assumption) | assumption)
              obtain ⟨ad374, e374, hx374_0⟩ := Kd.at_int (Kd.R_reads' HO_374001.out).2.2 x10_3 p374 q374
              cases e374
              replace p374 := eq_true p374
              replace q374 := eq_true q374
              go_wp2
              go_roundg k3
              case measure => have := HJ2.out; have := HK2.out; have := HK3.out; omega
              case rel => exact ⟨(wrap64 (x10_3 + 1)), (by first | rfl | (simp; done) | (simp [*]; done)), H', ⟨by have := HJ2.out; have := HK2.out; have := HK3.out; omega⟩, ⟨by (with_reducible repeat (first | apply Kd.R_alloc | apply Kd.R_drewN | apply Kd.R_drew)); exact HO_8.out⟩, ⟨by (with_reducible repeat (first | apply Kd.R_alloc | apply Kd.R_drewN | apply Kd.R_drew)); exact HO_374000.out⟩, ⟨by (with_reducible repeat (first | apply Kd.R_alloc | apply Kd.R_drewN | apply Kd.R_drew)); exact HO_374001.out⟩, ⟨by (with_reducible repeat (first | refine blk_drewN ?_ _ | refine blk_drew ?_ | refine blk_alloc ?_ _)); exact BK373.out⟩, ⟨by repeat (first | (with_reducible first | exact HB.out | apply below_alloc | apply pw_below_drewN | apply below_drew1 | refine below_set ?_ GE373.out) | exact HB.out)⟩⟩
            ·rw [if_neg c16] at H
             exact absurd H (by simp)
           ·rw [if_neg c15] at H
            exact absurd H (by simp)
          ·rw [if_neg c14] at H
           have c14b0 : decide (x10_3 < (t370.length : Int)) = false := decide_eq_false c14
           clear c14
           (first | rw [c14b0] | (simp only [i64_w, i32_w]; rw [c14b0]) | skip)
           have H' := Aside0.mk H
           clear H
           go_wp2
           go_meet
           case rel => exact ⟨_, (x10_3), (by first | rfl | (simp; done) | (simp [*]; done)), H', ⟨by have := HJ2.out; have := HK2.out; have := HK3.out; first | omega | exact Nat.le_refl _⟩, ⟨by (with_reducible repeat (first | apply Kd.R_alloc | apply Kd.R_drewN | apply Kd.R_drew)); exact HO_8.out⟩, ⟨by (with_reducible repeat (first | apply Kd.R_alloc | apply Kd.R_drewN | apply Kd.R_drew)); exact HO_374000.out⟩, ⟨by (with_reducible repeat (first | apply Kd.R_alloc | apply Kd.R_drewN | apply Kd.R_drew)); exact HO_374001.out⟩, ⟨by (with_reducible repeat (first | refine blk_drewN ?_ _ | refine blk_drew ?_ | refine blk_alloc ?_ _)); exact BK373.out⟩, ⟨by repeat (first | (with_reducible first | exact HB.out | apply below_alloc | apply pw_below_drewN | apply below_drew1 | refine below_set ?_ GE373.out) | exact HB.out)⟩⟩
       case rest =>
        clear HC13
        try clear c1
        try clear p2
        try clear c3
        try clear p3
        try clear q3
        try clear hx3
        try clear c4
        try clear c4b0
        try clear c5
        try clear p6
        try clear c12
        try clear c12b0
        try clear c14
        try clear c14b0
        try clear c15
        try clear c15b0
        try clear c16
        try clear c16b0
        try clear c17
        try clear c17b0
        try clear c17b1
        try clear hcz10_0
        try clear hcz10_1
        try clear hcz18_0
        try clear hcz18_1
        try clear hcz19_0
        try clear hcz19_1
        try clear hfz10_0
        try clear hfz10_1
        try clear hfz18_0
        try clear hfz18_1
        try clear hfz19_0
        try clear hfz19_1
        try clear hx374_0
        try clear p2
        try clear p374
        try clear q374
        obtain ⟨kq, x10_12, rfl, HA, HJ12, HO_8, HO_374000, HO_374001, BK373, HB⟩ := hcut
        cases kq with
        | zero => exact absurd HA.out (by simp [galleyref22_Wrap.j3])
        | succ kj12 =>
         have H := HA.out
         clear HA
         simp only [galleyref22_Wrap.j3] at H
         have H' := Aside0.mk H
         clear H
         go_wp2
         go_loopg [8, 9] kj12 (fun kq v8 v9 w' => ∃ (x8_4 : List Int) (x9_4 : Int), v9 = .int .i64 x9_4 ∧ Aside0 (galleyref22_Wrap.l2 kq a1 (t370.length : Int) x8_4 x9_4 x10_12 t367 t370 = some (r1, r2)) ∧ Aside0 (kq ≤ kj12) ∧ Aside0 (Kd.R (Kd.int .i64) 3 w' w.heap.size (fun k_ => some k_ ≠ ((.slice Ao9 t367.length co9) : Value).ownBlock ∧ some k_ ≠ ((.slice Ao11 t370.length co11) : Value).ownBlock) v8 x8_4) ∧ Aside0 (Kd.R (Kd.int .i64) 3 w' w.heap.size (fun k_ => some k_ ≠ (v8 : Value).ownBlock ∧ some k_ ≠ ((.slice Ao11 t370.length co11) : Value).ownBlock) (.slice Ao9 t367.length co9) t367) ∧ Aside0 (Kd.R (Kd.int .i64) 3 w' w.heap.size (fun k_ => some k_ ≠ (v8 : Value).ownBlock ∧ some k_ ≠ ((.slice Ao9 t367.length co9) : Value).ownBlock) (.slice Ao11 t370.length co11) t370) ∧ Aside0 (w'.heap[gb373]? = some (.cells #[(.slice Ao9 t367.length co9), (.slice Ao11 t370.length co11)] 96 (0, 0))) ∧ Aside0 (Below w.heap.size w w'))
         case atStart => exact ⟨(x8_2), (x9_2), (by first | rfl | (simp; done) | (simp [*]; done)), H', ⟨Nat.le_refl _⟩, ⟨by (with_reducible repeat (first | apply Kd.R_alloc | apply Kd.R_drewN | apply Kd.R_drew)); exact HO_8.out⟩, ⟨by (with_reducible repeat (first | apply Kd.R_alloc | apply Kd.R_drewN | apply Kd.R_drew)); exact HO_374000.out⟩, ⟨by (with_reducible repeat (first | apply Kd.R_alloc | apply Kd.R_drewN | apply Kd.R_drew)); exact HO_374001.out⟩, ⟨by (with_reducible repeat (first | refine blk_drewN ?_ _ | refine blk_drew ?_ | refine blk_alloc ?_ _)); exact BK373.out⟩, ⟨by repeat (first | (with_reducible first | exact HB.out | apply below_alloc | apply pw_below_drewN | apply below_drew1 | refine below_set ?_ GE373.out) | exact HB.out)⟩⟩
         case round =>
          clear H'
          try clear c1
          try clear p2
          try clear c3
          try clear p3
          try clear q3
          try clear hx3
          try clear c4
          try clear c4b0
          try clear c5
          try clear p6
          try clear c12
          try clear c12b0
          try clear c14
          try clear c14b0
          try clear c15
          try clear c15b0
          try clear c16
          try clear c16b0
          try clear c17
          try clear c17b0
          try clear c17b1
          try clear hcz10_0
          try clear hcz10_1
          try clear hcz18_0
          try clear hcz18_1
          try clear hcz19_0
          try clear hcz19_1
          try clear hfz10_0
          try clear hfz10_1
          try clear hfz18_0
          try clear hfz18_1
          try clear hfz19_0
          try clear hfz19_1
          try clear hx374_0
          try clear p2
          try clear p3
          try clear p374
          try clear p6
          try clear q3
          try clear q374
          obtain ⟨x8_4, x9_4, rfl, HA, HK4, HO_8, HO_374000, HO_374001, BK373, HB⟩ := hrel
          cases gk with
          | zero => exact absurd HA.out (by simp [galleyref22_Wrap.l2])
          | succ k4 =>
           have H := HA.out
           clear HA
           simp only [galleyref22_Wrap.l2] at H
           by_cases c20 : (wrap64 (x10_12 - x9_4)) > a1
           ·rw [if_pos c20] at H
            have c20b0 : decide (a1 < (wrap64 (x10_12 - x9_4))) = true := decide_eq_true c20
            clear c20
            have H' := Aside0.mk H
            clear H
            go_wp2
            go_loopg [11] k4 (fun kq v11 w' => ∃ (x11_5 : Int), v11 = .int .i64 x11_5 ∧ Aside0 (galleyref22_Wrap.l3 kq a1 (t370.length : Int) x8_4 x9_4 x10_12 x11_5 t367 t370 = some (r1, r2)) ∧ Aside0 (kq ≤ k4) ∧ Aside0 (Kd.R (Kd.int .i64) 3 w' w.heap.size (fun k_ => some k_ ≠ ((.slice Ao9 t367.length co9) : Value).ownBlock ∧ some k_ ≠ ((.slice Ao11 t370.length co11) : Value).ownBlock) u8 x8_4) ∧ Aside0 (Kd.R (Kd.int .i64) 3 w' w.heap.size (fun k_ => some k_ ≠ (u8 : Value).ownBlock ∧ some k_ ≠ ((.slice Ao11 t370.length co11) : Value).ownBlock) (.slice Ao9 t367.length co9) t367) ∧ Aside0 (Kd.R (Kd.int .i64) 3 w' w.heap.size (fun k_ => some k_ ≠ (u8 : Value).ownBlock ∧ some k_ ≠ ((.slice Ao9 t367.length co9) : Value).ownBlock) (.slice Ao11 t370.length co11) t370) ∧ Aside0 (w'.heap[gb373]? = some (.cells #[(.slice Ao9 t367.length co9), (.slice Ao11 t370.length co11)] 96 (0, 0))) ∧ Aside0 (Below w.heap.size w w'))
            case atStart => exact ⟨(wrap64 (x9_4 + a1)), (by first | rfl | (simp; done) | (simp [*]; done)), H', ⟨Nat.le_refl _⟩, ⟨by (with_reducible repeat (first | apply Kd.R_alloc | apply Kd.R_drewN | apply Kd.R_drew)); exact HO_8.out⟩, ⟨by (with_reducible repeat (first | apply Kd.R_alloc | apply Kd.R_drewN | apply Kd.R_drew)); exact HO_374000.out⟩, ⟨by (with_reducible repeat (first | apply Kd.R_alloc | apply Kd.R_drewN | apply Kd.R_drew)); exact HO_374001.out⟩, ⟨by (with_reducible repeat (first | refine blk_drewN ?_ _ | refine blk_drew ?_ | refine blk_alloc ?_ _)); exact BK373.out⟩, ⟨by repeat (first | (with_reducible first | exact HB.out | apply below_alloc | apply pw_below_drewN | apply below_drew1 | refine below_set ?_ GE373.out) | exact HB.out)⟩⟩
            case round =>
             clear H'
             try clear c1
             try clear c2
             try clear p2
             try clear c3
             try clear p3
             try clear q3
             try clear hx3
             try clear c4
             try clear c4b0
             try clear c5
             try clear p6
             try clear c12
             try clear c12b0
             try clear c14
             try clear c14b0
             try clear c15
             try clear c15b0
             try clear c16
             try clear c16b0
             try clear c17
             try clear c17b0
             try clear c17b1
             try clear c20
             try clear c20b0
             try clear hcz10_0
             try clear hcz10_1
             try clear hcz18_0
             try clear hcz18_1
             try clear hcz19_0
             try clear hcz19_1
             try clear hfz10_0
             try clear hfz10_1
             try clear hfz18_0
             try clear hfz18_1
             try clear hfz19_0
             try clear hfz19_1
             try clear hx374_0
             try clear p2
             try clear p3
             try clear p374
             try clear p6
             try clear q3
             try clear q374
             obtain ⟨x11_5, rfl, HA, HK5, HO_8, HO_374000, HO_374001, BK373, HB⟩ := hrel
             cases gk with
             | zero => exact absurd HA.out (by simp [galleyref22_Wrap.l3])
             | succ k5 =>
              have H := HA.out
              clear HA
              simp only [galleyref22_Wrap.l3] at H
              by_cases c21 : x11_5 > x9_4
              ·rw [if_pos c21] at H
               have c21b0 : decide (x9_4 < x11_5) = true := decide_eq_true c21
               clear c21
               obtain ⟨ji22, hji22⟩ : ∃ j_ : Int, (wrap64 (x11_5 - 1)) = j_ := ⟨_, rfl⟩
               replace H : (if 0 ≤ (ji22) then (if (ji22) < (t370.length : Int) then (if (rd t370 (ji22)) = 1 then (if x11_5 = x9_4 then (if 0 ≤ (wrap64 (x9_4 + a1)) then (if (wrap64 (x9_4 + a1)) < (t367.length : Int) then (if x8_4.length < 17592186044416 then (galleyref22_Wrap.l2 k5 a1 (t370.length : Int) (x8_4 ++ [rd t367 (wrap64 (x9_4 + a1))]) (wrap64 (x9_4 + a1)) x10_12 t367 t370) else (none)) else (none)) else (none)) else (if 0 ≤ x11_5 then (if x11_5 < (t367.length : Int) then (if x8_4.length < 17592186044416 then (galleyref22_Wrap.l2 k5 a1 (t370.length : Int) (x8_4 ++ [rd t367 x11_5]) x11_5 x10_12 t367 t370) else (none)) else (none)) else (none))) else (galleyref22_Wrap.l3 k5 a1 (t370.length : Int) x8_4 x9_4 x10_12 ji22 t367 t370)) else (none)) else (none)) = some (r1, r2) := by first | (rw [hji22] at H; exact H) | (simp only [hji22] at H ⊢; exact H)
               have hji22w : (IntKind.i64.wrap (x11_5 - 1)) = ji22 := (i64_w _).trans hji22
               by_cases c23 : 0 ≤ (ji22)
               ·rw [if_pos c23] at H
                have c23b0 : decide (0 ≤ (ji22)) = true := decide_eq_true c23
                clear c23
                by_cases c24 : (ji22) < (t370.length : Int)
                ·rw [if_pos c24] at H
                 have c24b0 : decide ((ji22) < (t370.length : Int)) = true := decide_eq_true c24
                 clear c24
                 by_cases c25 : (rd t370 (ji22)) = 1
                 ·rw [if_pos c25] at H
                  have c25b0 : ((rd t370 (ji22)) == 1) = true := beq_iff_eq.mpr c25
                  have c25b1 : ((rd t370 (ji22)) != 1) = false := bne_eq_false_iff_eq.mpr c25
                  clear c25
                  by_cases c26 : x11_5 = x9_4
                  ·rw [if_pos c26] at H
                   have c26b0 : (x11_5 == x9_4) = true := beq_iff_eq.mpr c26
                   have c26b1 : (x11_5 != x9_4) = false := bne_eq_false_iff_eq.mpr c26
                   clear c26
                   obtain ⟨ji27, hji27⟩ : ∃ j_ : Int, (wrap64 (x9_4 + a1)) = j_ := ⟨_, rfl⟩
                   replace H : (if 0 ≤ (ji27) then (if (ji27) < (t367.length : Int) then (if x8_4.length < 17592186044416 then (galleyref22_Wrap.l2 k5 a1 (t370.length : Int) (x8_4 ++ [rd t367 (ji27)]) ji27 x10_12 t367 t370) else (none)) else (none)) else (none)) = some (r1, r2) := by first | (rw [hji27] at H; exact H) | (simp only [hji27] at H ⊢; exact H)
                   have hji27w : (IntKind.i64.wrap (x9_4 + a1)) = ji27 := (i64_w _).trans hji27
                   by_cases c28 : 0 ≤ (ji27)
                   ·rw [if_pos c28] at H
                    have c28b0 : decide (0 ≤ (ji27)) = true := decide_eq_true c28
                    clear c28
                    by_cases c29 : (ji27) < (t367.length : Int)
                    ·rw [if_pos c29] at H
                     have c29b0 : decide ((ji27) < (t367.length : Int)) = true := decide_eq_true c29
                     clear c29
                     by_cases c30 : x8_4.length < 17592186044416
                     ·rw [if_pos c30] at H
                      have LMc30 := Aside0.mk c30
                      clear c30
                      obtain ⟨y377, hy377⟩ : ∃ y_ : List Int, y_ = (x8_4 ++ [rd t367 (ji27)]) := ⟨_, rfl⟩
                      replace H : (galleyref22_Wrap.l2 k5 a1 (t370.length : Int) y377 ji27 x10_12 t367 t370) = some (r1, r2) := by first | (rw [hy377]; with_reducible exact H) | (have H2_ := (Option.bind_some _ _).symm.trans H; rw [hy377]; with_reducible exact H2_) | (have H2_ := (Option.bind_some _ _).symm.trans H; with_reducible exact H2_) | with_reducible exact H | (rw [hy377]; exact H) | exact H
                      have Ny377 := Aside0.mk hy377
                      clear hy377
                      have H' := Aside0.mk H
                      clear H
                      have hcz31_0 : wr.cell? ⟨gb373, 0, none⟩ = some (.slice Ao9 t367.length co9) := (blk_cell BK373.out 0).trans rfl
                      have hcz31_1 : wr.cell? ⟨gb373, 1, none⟩ = some (.slice Ao11 t370.length co11) := (blk_cell BK373.out 1).trans rfl
                      have hfz31_0 := blk_frozen BK373.out 0
                      have hfz31_1 := blk_frozen BK373.out 1
                      have p375 : 0 ≤ ((ji22) : Int) := of_decide_eq_true (by first | (with_reducible assumption) | assumption)
                      have q375 : (ji22) < (t370.length : Int) := of_decide_eq_true (by first | (with_reducible assumption) | assumption)
                      obtain ⟨ad375, e375, hx375_0⟩ := Kd.at_int (Kd.R_reads' HO_374001.out).2.2 (ji22) p375 q375
                      cases e375
                      replace p375 := eq_true p375
                      replace q375 := eq_true q375
                      have p376 : 0 ≤ ((ji27) : Int) := of_decide_eq_true (by first | (with_reducible assumption) | assumption)
                      have q376 : (ji27) < (t367.length : Int) := of_decide_eq_true (by first | (with_reducible assumption) | assumption)
                      obtain ⟨ad376, e376, hx376_0⟩ := Kd.at_int (Kd.R_reads' HO_374000.out).2.2 (ji27) p376 q376
                      cases e376
                      replace p376 := eq_true p376
                      replace q376 := eq_true q376
                      go_wp2_with (first | ((with_reducible refine gate_builtin (b := .append) (xs := #[.tmp 68, .tmp 74]) rfl ?_); at_builtin; refine Kd.R_append (Kd.int .i64) (w0 := w) w.heap.size rfl (.tmp 68) (.tmp 74) 69 3 (.int .i64 0) 8 rfl Tryd.underlying69 info3 rfl (by decide) (by omega) u8 x8_4 (rd t367 (ji27)) [.int .i64 (rd t367 (ji27))] (fun k_ => some k_ ≠ (.slice (some ad376) t367.length co9 : Value).ownBlock ∧ some k_ ≠ (.slice (some ad375) t370.length co11 : Value).ownBlock) (fun _ => False) rfl rfl ?aP (fun _ hk => hk.elim) ?aF ?aO ?aB ?aS ?aL ?_; (case aP => exact rfl); (case aB => exact (by repeat (first | (with_reducible first | exact HB.out | apply below_alloc | apply pw_below_drewN | apply below_drew1 | refine below_set ?_ GE373.out) | exact HB.out))); (case aF => exact (fun k_ hk => ⟨Kd.fresh' (Kd.R_lt (by (with_reducible repeat (first | apply Kd.R_alloc | apply Kd.R_drewN | apply Kd.R_drew)); exact HO_374000.out)) k_ hk, Kd.fresh' (Kd.R_lt (by (with_reducible repeat (first | apply Kd.R_alloc | apply Kd.R_drewN | apply Kd.R_drew)); exact HO_374001.out)) k_ hk⟩)); (case aO => exact (by (with_reducible repeat (first | apply Kd.R_alloc | apply Kd.R_drewN | apply Kd.R_drew)); exact HO_8.out)); (case aS => exact (below_size (by repeat (first | (with_reducible first | exact HB.out | apply below_alloc | apply pw_below_drewN | apply below_drew1 | refine below_set ?_ GE373.out) | exact HB.out)))); (case aL => have := LMc30.out; omega); intro v378 w32 ho hb hg hat; rw [← Ny377.out] at ho; have n0_ := Aside0.mk (Kd.R_after (ok := (fun k_ => some k_ ≠ (.slice (some ad375) t370.length co11 : Value).ownBlock)) (by (with_reducible repeat (first | apply Kd.R_alloc | apply Kd.R_drewN | apply Kd.R_drew)); exact Kd.R_mono HO_374000.out (fun _ hk => ⟨hk.2, hk.1⟩)) hg hat); have n1_ := Aside0.mk (Kd.R_after (ok := (fun k_ => some k_ ≠ (.slice (some ad376) t367.length co9 : Value).ownBlock)) (by (with_reducible repeat (first | apply Kd.R_alloc | apply Kd.R_drewN | apply Kd.R_drew)); exact Kd.R_mono HO_374001.out (fun _ hk => ⟨hk.2, hk.1⟩)) hg hat); have n2_ := Aside0.mk (blk_grown (g := gb373) (o := .cells #[.slice (some ad376) t367.length co9, .slice (some ad375) t370.length co11] 96 (0, 0)) (by (with_reducible repeat (first | refine blk_drewN ?_ _ | refine blk_drew ?_ | refine blk_alloc ?_ _)); exact BK373.out) hg (Kd.R_ne HO_8.out BK373.out (by decide))); have n3_ := Aside0.mk (hb); have n4_ := Aside0.mk (ho); clear HO_374000; clear HO_374001; clear BK373; clear HB; clear HO_8; have HO_374000 := n0_; have HO_374001 := n1_; have BK373 := n2_; have HB := n3_; have HO379 := n4_; clear n0_ n1_ n2_ n3_ n4_; clear ho hb hg hat))
                      go_roundg k5
                      case measure => have := HJ2.out; have := HK2.out; have := HJ12.out; have := HK4.out; have := HK5.out; omega
                      case rel => exact ⟨(y377), (ji27), (by first | rfl | (simp; done) | (simp only [← hji27] <;> (first | rfl | simp)) | (simp [*]; done)), H', ⟨by have := HJ2.out; have := HK2.out; have := HJ12.out; have := HK4.out; have := HK5.out; omega⟩, ⟨by (with_reducible repeat (first | apply Kd.R_alloc | apply Kd.R_drewN | apply Kd.R_drew)); exact HO379.out⟩, ⟨by (with_reducible repeat (first | apply Kd.R_alloc | apply Kd.R_drewN | apply Kd.R_drew)); exact Kd.R_mono HO_374000.out (fun _ hk => ⟨hk.2, hk.1⟩)⟩, ⟨by (with_reducible repeat (first | apply Kd.R_alloc | apply Kd.R_drewN | apply Kd.R_drew)); exact Kd.R_mono HO_374001.out (fun _ hk => ⟨hk.2, hk.1⟩)⟩, ⟨by (with_reducible repeat (first | refine blk_drewN ?_ _ | refine blk_drew ?_ | refine blk_alloc ?_ _)); exact BK373.out⟩, ⟨by repeat (first | (with_reducible first | exact HB.out | apply below_alloc | apply pw_below_drewN | apply below_drew1 | refine below_set ?_ GE373.out) | exact HB.out)⟩⟩
                     ·rw [if_neg c30] at H
                      exact absurd H (by simp)
                    ·rw [if_neg c29] at H
                     exact absurd H (by simp)
                   ·rw [if_neg c28] at H
                    exact absurd H (by simp)
                  ·rw [if_neg c26] at H
                   have c26b0 : (x11_5 == x9_4) = false := beq_eq_false_iff_ne.mpr c26
                   have c26b1 : (x11_5 != x9_4) = true := bne_iff_ne.mpr c26
                   by_cases c33 : 0 ≤ x11_5
                   ·rw [if_pos c33] at H
                    have c33b0 : decide (0 ≤ x11_5) = true := decide_eq_true c33
                    clear c33
                    by_cases c34 : x11_5 < (t367.length : Int)
                    ·rw [if_pos c34] at H
                     have c34b0 : decide (x11_5 < (t367.length : Int)) = true := decide_eq_true c34
                     clear c34
                     by_cases c35 : x8_4.length < 17592186044416
                     ·rw [if_pos c35] at H
                      have LMc35 := Aside0.mk c35
                      clear c35
                      obtain ⟨y381, hy381⟩ : ∃ y_ : List Int, y_ = (x8_4 ++ [rd t367 x11_5]) := ⟨_, rfl⟩
                      replace H : (galleyref22_Wrap.l2 k5 a1 (t370.length : Int) y381 x11_5 x10_12 t367 t370) = some (r1, r2) := by first | (rw [hy381]; with_reducible exact H) | (have H2_ := (Option.bind_some _ _).symm.trans H; rw [hy381]; with_reducible exact H2_) | (have H2_ := (Option.bind_some _ _).symm.trans H; with_reducible exact H2_) | with_reducible exact H | (rw [hy381]; exact H) | exact H
                      have Ny381 := Aside0.mk hy381
                      clear hy381
                      have H' := Aside0.mk H
                      clear H
                      have hcz36_0 : wr.cell? ⟨gb373, 0, none⟩ = some (.slice Ao9 t367.length co9) := (blk_cell BK373.out 0).trans rfl
                      have hcz36_1 : wr.cell? ⟨gb373, 1, none⟩ = some (.slice Ao11 t370.length co11) := (blk_cell BK373.out 1).trans rfl
                      have hfz36_0 := blk_frozen BK373.out 0
                      have hfz36_1 := blk_frozen BK373.out 1
                      have p375 : 0 ≤ ((ji22) : Int) := of_decide_eq_true (by first | (with_reducible assumption) | assumption)
                      have q375 : (ji22) < (t370.length : Int) := of_decide_eq_true (by first | (with_reducible assumption) | assumption)
                      obtain ⟨ad375, e375, hx375_0⟩ := Kd.at_int (Kd.R_reads' HO_374001.out).2.2 (ji22) p375 q375
                      cases e375
                      replace p375 := eq_true p375
                      replace q375 := eq_true q375
                      have p380 : 0 ≤ (x11_5 : Int) := of_decide_eq_true (by first | (with_reducible assumption) | assumption)
                      have q380 : x11_5 < (t367.length : Int) := of_decide_eq_true (by first | (with_reducible assumption) | assumption)
                      obtain ⟨ad380, e380, hx380_0⟩ := Kd.at_int (Kd.R_reads' HO_374000.out).2.2 x11_5 p380 q380
                      cases e380
                      replace p380 := eq_true p380
                      replace q380 := eq_true q380
                      go_wp2_with (first | ((with_reducible refine gate_builtin (b := .append) (xs := #[.tmp 68, .tmp 74]) rfl ?_); at_builtin; refine Kd.R_append (Kd.int .i64) (w0 := w) w.heap.size rfl (.tmp 68) (.tmp 74) 69 3 (.int .i64 0) 8 rfl Tryd.underlying69 info3 rfl (by decide) (by omega) u8 x8_4 (rd t367 x11_5) [.int .i64 (rd t367 x11_5)] (fun k_ => some k_ ≠ (.slice (some ad380) t367.length co9 : Value).ownBlock ∧ some k_ ≠ (.slice (some ad375) t370.length co11 : Value).ownBlock) (fun _ => False) rfl rfl ?aP (fun _ hk => hk.elim) ?aF ?aO ?aB ?aS ?aL ?_; (case aP => exact rfl); (case aB => exact (by repeat (first | (with_reducible first | exact HB.out | apply below_alloc | apply pw_below_drewN | apply below_drew1 | refine below_set ?_ GE373.out) | exact HB.out))); (case aF => exact (fun k_ hk => ⟨Kd.fresh' (Kd.R_lt (by (with_reducible repeat (first | apply Kd.R_alloc | apply Kd.R_drewN | apply Kd.R_drew)); exact HO_374000.out)) k_ hk, Kd.fresh' (Kd.R_lt (by (with_reducible repeat (first | apply Kd.R_alloc | apply Kd.R_drewN | apply Kd.R_drew)); exact HO_374001.out)) k_ hk⟩)); (case aO => exact (by (with_reducible repeat (first | apply Kd.R_alloc | apply Kd.R_drewN | apply Kd.R_drew)); exact HO_8.out)); (case aS => exact (below_size (by repeat (first | (with_reducible first | exact HB.out | apply below_alloc | apply pw_below_drewN | apply below_drew1 | refine below_set ?_ GE373.out) | exact HB.out)))); (case aL => have := LMc35.out; omega); intro v382 w37 ho hb hg hat; rw [← Ny381.out] at ho; have n0_ := Aside0.mk (Kd.R_after (ok := (fun k_ => some k_ ≠ (.slice (some ad375) t370.length co11 : Value).ownBlock)) (by (with_reducible repeat (first | apply Kd.R_alloc | apply Kd.R_drewN | apply Kd.R_drew)); exact Kd.R_mono HO_374000.out (fun _ hk => ⟨hk.2, hk.1⟩)) hg hat); have n1_ := Aside0.mk (Kd.R_after (ok := (fun k_ => some k_ ≠ (.slice (some ad380) t367.length co9 : Value).ownBlock)) (by (with_reducible repeat (first | apply Kd.R_alloc | apply Kd.R_drewN | apply Kd.R_drew)); exact Kd.R_mono HO_374001.out (fun _ hk => ⟨hk.2, hk.1⟩)) hg hat); have n2_ := Aside0.mk (blk_grown (g := gb373) (o := .cells #[.slice (some ad380) t367.length co9, .slice (some ad375) t370.length co11] 96 (0, 0)) (by (with_reducible repeat (first | refine blk_drewN ?_ _ | refine blk_drew ?_ | refine blk_alloc ?_ _)); exact BK373.out) hg (Kd.R_ne HO_8.out BK373.out (by decide))); have n3_ := Aside0.mk (hb); have n4_ := Aside0.mk (ho); clear HO_374000; clear HO_374001; clear BK373; clear HB; clear HO_8; have HO_374000 := n0_; have HO_374001 := n1_; have BK373 := n2_; have HB := n3_; have HO383 := n4_; clear n0_ n1_ n2_ n3_ n4_; clear ho hb hg hat))
                      go_roundg k5
                      case measure => have := HJ2.out; have := HK2.out; have := HJ12.out; have := HK4.out; have := HK5.out; omega
                      case rel => exact ⟨(y381), (x11_5), (by first | rfl | (simp; done) | (simp [*]; done)), H', ⟨by have := HJ2.out; have := HK2.out; have := HJ12.out; have := HK4.out; have := HK5.out; omega⟩, ⟨by (with_reducible repeat (first | apply Kd.R_alloc | apply Kd.R_drewN | apply Kd.R_drew)); exact HO383.out⟩, ⟨by (with_reducible repeat (first | apply Kd.R_alloc | apply Kd.R_drewN | apply Kd.R_drew)); exact Kd.R_mono HO_374000.out (fun _ hk => ⟨hk.2, hk.1⟩)⟩, ⟨by (with_reducible repeat (first | apply Kd.R_alloc | apply Kd.R_drewN | apply Kd.R_drew)); exact Kd.R_mono HO_374001.out (fun _ hk => ⟨hk.2, hk.1⟩)⟩, ⟨by (with_reducible repeat (first | refine blk_drewN ?_ _ | refine blk_drew ?_ | refine blk_alloc ?_ _)); exact BK373.out⟩, ⟨by repeat (first | (with_reducible first | exact HB.out | apply below_alloc | apply pw_below_drewN | apply below_drew1 | refine below_set ?_ GE373.out) | exact HB.out)⟩⟩
                     ·rw [if_neg c35] at H
                      exact absurd H (by simp)
                    ·rw [if_neg c34] at H
                     exact absurd H (by simp)
                   ·rw [if_neg c33] at H
                    exact absurd H (by simp)
                 ·rw [if_neg c25] at H
                  have c25b0 : ((rd t370 (ji22)) == 1) = false := beq_eq_false_iff_ne.mpr c25
                  have c25b1 : ((rd t370 (ji22)) != 1) = true := bne_iff_ne.mpr c25
                  have H' := Aside0.mk H
                  clear H
                  have hcz38_0 : wr.cell? ⟨gb373, 0, none⟩ = some (.slice Ao9 t367.length co9) := (blk_cell BK373.out 0).trans rfl
                  have hcz38_1 : wr.cell? ⟨gb373, 1, none⟩ = some (.slice Ao11 t370.length co11) := (blk_cell BK373.out 1).trans rfl
                  have hfz38_0 := blk_frozen BK373.out 0
                  have hfz38_1 := blk_frozen BK373.out 1
                  have p375 : 0 ≤ ((ji22) : Int) := of_decide_eq_true (by first | (with_reducible assumption) | assumption)
                  have q375 : (ji22) < (t370.length : Int) := of_decide_eq_true (by first | (with_reducible assumption) | assumption)
                  obtain ⟨ad375, e375, hx375_0⟩ := Kd.at_int (Kd.R_reads' HO_374001.out).2.2 (ji22) p375 q375
                  cases e375
                  replace p375 := eq_true p375
                  replace q375 := eq_true q375
                  go_wp2
                  go_roundg k5
                  case measure => have := HJ2.out; have := HK2.out; have := HJ12.out; have := HK4.out; have := HK5.out; omega
                  case rel => exact ⟨(ji22), (by first | rfl | (simp; done) | (simp only [← hji22] <;> (first | rfl | simp)) | (simp [*]; done)), H', ⟨by have := HJ2.out; have := HK2.out; have := HJ12.out; have := HK4.out; have := HK5.out; omega⟩, ⟨by (with_reducible repeat (first | apply Kd.R_alloc | apply Kd.R_drewN | apply Kd.R_drew)); exact HO_8.out⟩, ⟨by (with_reducible repeat (first | apply Kd.R_alloc | apply Kd.R_drewN | apply Kd.R_drew)); exact HO_374000.out⟩, ⟨by (with_reducible repeat (first | apply Kd.R_alloc | apply Kd.R_drewN | apply Kd.R_drew)); exact HO_374001.out⟩, ⟨by (with_reducible repeat (first | refine blk_drewN ?_ _ | refine blk_drew ?_ | refine blk_alloc ?_ _)); exact BK373.out⟩, ⟨by repeat (first | (with_reducible first | exact HB.out | apply below_alloc | apply pw_below_drewN | apply below_drew1 | refine below_set ?_ GE373.out) | exact HB.out)⟩⟩
                ·rw [if_neg c24] at H
                 exact absurd H (by simp)
               ·rw [if_neg c23] at H
                exact absurd H (by simp)
              ·rw [if_neg c21] at H
               have c21b0 : decide (x9_4 < x11_5) = false := decide_eq_false c21
               clear c21
               by_cases c39 : x11_5 = x9_4
               ·rw [if_pos c39] at H
                have c39b0 : (x11_5 == x9_4) = true := beq_iff_eq.mpr c39
                have c39b1 : (x11_5 != x9_4) = false := bne_eq_false_iff_eq.mpr c39
                clear c39
                obtain ⟨ji40, hji40⟩ : ∃ j_ : Int, (wrap64 (x9_4 + a1)) = j_ := ⟨_, rfl⟩
                replace H : (if 0 ≤ (ji40) then (if (ji40) < (t367.length : Int) then (if x8_4.length < 17592186044416 then (galleyref22_Wrap.l2 k5 a1 (t370.length : Int) (x8_4 ++ [rd t367 (ji40)]) ji40 x10_12 t367 t370) else (none)) else (none)) else (none)) = some (r1, r2) := by first | (rw [hji40] at H; exact H) | (simp only [hji40] at H ⊢; exact H)
                have hji40w : (IntKind.i64.wrap (x9_4 + a1)) = ji40 := (i64_w _).trans hji40
                by_cases c41 : 0 ≤ (ji40)
                ·rw [if_pos c41] at H
                 have c41b0 : decide (0 ≤ (ji40)) = true := decide_eq_true c41
                 clear c41
                 by_cases c42 : (ji40) < (t367.length : Int)
                 ·rw [if_pos c42] at H
                  have c42b0 : decide ((ji40) < (t367.length : Int)) = true := decide_eq_true c42
                  clear c42
                  by_cases c43 : x8_4.length < 17592186044416
                  ·rw [if_pos c43] at H
                   have LMc43 := Aside0.mk c43
                   clear c43
                   obtain ⟨y385, hy385⟩ : ∃ y_ : List Int, y_ = (x8_4 ++ [rd t367 (ji40)]) := ⟨_, rfl⟩
                   replace H : (galleyref22_Wrap.l2 k5 a1 (t370.length : Int) y385 ji40 x10_12 t367 t370) = some (r1, r2) := by first | (rw [hy385]; with_reducible exact H) | (have H2_ := (Option.bind_some _ _).symm.trans H; rw [hy385]; with_reducible exact H2_) | (have H2_ := (Option.bind_some _ _).symm.trans H; with_reducible exact H2_) | with_reducible exact H | (rw [hy385]; exact H) | exact H
                   have Ny385 := Aside0.mk hy385
                   clear hy385
                   have H' := Aside0.mk H
                   clear H
                   have hcz44_0 : wr.cell? ⟨gb373, 0, none⟩ = some (.slice Ao9 t367.length co9) := (blk_cell BK373.out 0).trans rfl
                   have hcz44_1 : wr.cell? ⟨gb373, 1, none⟩ = some (.slice Ao11 t370.length co11) := (blk_cell BK373.out 1).trans rfl
                   have hfz44_0 := blk_frozen BK373.out 0
                   have hfz44_1 := blk_frozen BK373.out 1
                   have p384 : 0 ≤ ((ji40) : Int) := of_decide_eq_true (by first | (with_reducible assumption) | assumption)
                   have q384 : (ji40) < (t367.length : Int) := of_decide_eq_true (by first | (with_reducible assumption) | assumption)
                   obtain ⟨ad384, e384, hx384_0⟩ := Kd.at_int (Kd.R_reads' HO_374000.out).2.2 (ji40) p384 q384
                   cases e384
                   replace p384 := eq_true p384
                   replace q384 := eq_true q384
                   go_wp2_with (first | ((with_reducible refine gate_builtin (b := .append) (xs := #[.tmp 68, .tmp 74]) rfl ?_); at_builtin; refine Kd.R_append (Kd.int .i64) (w0 := w) w.heap.size rfl (.tmp 68) (.tmp 74) 69 3 (.int .i64 0) 8 rfl Tryd.underlying69 info3 rfl (by decide) (by omega) u8 x8_4 (rd t367 (ji40)) [.int .i64 (rd t367 (ji40))] (fun k_ => some k_ ≠ (.slice (some ad384) t367.length co9 : Value).ownBlock ∧ some k_ ≠ (.slice Ao11 t370.length co11 : Value).ownBlock) (fun _ => False) rfl rfl ?aP (fun _ hk => hk.elim) ?aF ?aO ?aB ?aS ?aL ?_; (case aP => exact rfl); (case aB => exact (by repeat (first | (with_reducible first | exact HB.out | apply below_alloc | apply pw_below_drewN | apply below_drew1 | refine below_set ?_ GE373.out) | exact HB.out))); (case aF => exact (fun k_ hk => ⟨Kd.fresh' (Kd.R_lt (by (with_reducible repeat (first | apply Kd.R_alloc | apply Kd.R_drewN | apply Kd.R_drew)); exact HO_374000.out)) k_ hk, Kd.fresh' (Kd.R_lt (by (with_reducible repeat (first | apply Kd.R_alloc | apply Kd.R_drewN | apply Kd.R_drew)); exact HO_374001.out)) k_ hk⟩)); (case aO => exact (by (with_reducible repeat (first | apply Kd.R_alloc | apply Kd.R_drewN | apply Kd.R_drew)); exact HO_8.out)); (case aS => exact (below_size (by repeat (first | (with_reducible first | exact HB.out | apply below_alloc | apply pw_below_drewN | apply below_drew1 | refine below_set ?_ GE373.out) | exact HB.out)))); (case aL => have := LMc43.out; omega); intro v386 w45 ho hb hg hat; rw [← Ny385.out] at ho; have n0_ := Aside0.mk (Kd.R_after (ok := (fun k_ => some k_ ≠ (.slice Ao11 t370.length co11 : Value).ownBlock)) (by (with_reducible repeat (first | apply Kd.R_alloc | apply Kd.R_drewN | apply Kd.R_drew)); exact Kd.R_mono HO_374000.out (fun _ hk => ⟨hk.2, hk.1⟩)) hg hat); have n1_ := Aside0.mk (Kd.R_after (ok := (fun k_ => some k_ ≠ (.slice (some ad384) t367.length co9 : Value).ownBlock)) (by (with_reducible repeat (first | apply Kd.R_alloc | apply Kd.R_drewN | apply Kd.R_drew)); exact Kd.R_mono HO_374001.out (fun _ hk => ⟨hk.2, hk.1⟩)) hg hat); have n2_ := Aside0.mk (blk_grown (g := gb373) (o := .cells #[.slice (some ad384) t367.length co9, .slice Ao11 t370.length co11] 96 (0, 0)) (by (with_reducible repeat (first | refine blk_drewN ?_ _ | refine blk_drew ?_ | refine blk_alloc ?_ _)); exact BK373.out) hg (Kd.R_ne HO_8.out BK373.out (by decide))); have n3_ := Aside0.mk (hb); have n4_ := Aside0.mk (ho); clear HO_374000; clear HO_374001; clear BK373; clear HB; clear HO_8; have HO_374000 := n0_; have HO_374001 := n1_; have BK373 := n2_; have HB := n3_; have HO387 := n4_; clear n0_ n1_ n2_ n3_ n4_; clear ho hb hg hat))
                   go_roundg k5
                   case measure => have := HJ2.out; have := HK2.out; have := HJ12.out; have := HK4.out; have := HK5.out; omega
                   case rel => exact ⟨(y385), (ji40), (by first | rfl | (simp; done) | (simp only [← hji40] <;> (first | rfl | simp)) | (simp [*]; done)), H', ⟨by have := HJ2.out; have := HK2.out; have := HJ12.out; have := HK4.out; have := HK5.out; omega⟩, ⟨by (with_reducible repeat (first | apply Kd.R_alloc | apply Kd.R_drewN | apply Kd.R_drew)); exact HO387.out⟩, ⟨by (with_reducible repeat (first | apply Kd.R_alloc | apply Kd.R_drewN | apply Kd.R_drew)); exact Kd.R_mono HO_374000.out (fun _ hk => ⟨hk.2, hk.1⟩)⟩, ⟨by (with_reducible repeat (first | apply Kd.R_alloc | apply Kd.R_drewN | apply Kd.R_drew)); exact Kd.R_mono HO_374001.out (fun _ hk => ⟨hk.2, hk.1⟩)⟩, ⟨by (with_reducible repeat (first | refine blk_drewN ?_ _ | refine blk_drew ?_ | refine blk_alloc ?_ _)); exact BK373.out⟩, ⟨by repeat (first | (with_reducible first | exact HB.out | apply below_alloc | apply pw_below_drewN | apply below_drew1 | refine below_set ?_ GE373.out) | exact HB.out)⟩⟩
                  ·rw [if_neg c43] at H
                   exact absurd H (by simp)
                 ·rw [if_neg c42] at H
                  exact absurd H (by simp)
                ·rw [if_neg c41] at H
                 exact absurd H (by simp)
               ·rw [if_neg c39] at H
                have c39b0 : (x11_5 == x9_4) = false := beq_eq_false_iff_ne.mpr c39
                have c39b1 : (x11_5 != x9_4) = true := bne_iff_ne.mpr c39
                by_cases c46 : 0 ≤ x11_5
                ·rw [if_pos c46] at H
                 have c46b0 : decide (0 ≤ x11_5) = true := decide_eq_true c46
                 clear c46
                 by_cases c47 : x11_5 < (t367.length : Int)
                 ·rw [if_pos c47] at H
                  have c47b0 : decide (x11_5 < (t367.length : Int)) = true := decide_eq_true c47
                  clear c47
                  by_cases c48 : x8_4.length < 17592186044416
                  ·rw [if_pos c48] at H
                   have LMc48 := Aside0.mk c48
                   clear c48
                   obtain ⟨y389, hy389⟩ : ∃ y_ : List Int, y_ = (x8_4 ++ [rd t367 x11_5]) := ⟨_, rfl⟩
                   replace H : (galleyref22_Wrap.l2 k5 a1 (t370.length : Int) y389 x11_5 x10_12 t367 t370) = some (r1, r2) := by first | (rw [hy389]; with_reducible exact H) | (have H2_ := (Option.bind_some _ _).symm.trans H; rw [hy389]; with_reducible exact H2_) | (have H2_ := (Option.bind_some _ _).symm.trans H; with_reducible exact H2_) | with_reducible exact H | (rw [hy389]; exact H) | exact H
                   have Ny389 := Aside0.mk hy389
                   clear hy389
                   have H' := Aside0.mk H
                   clear H
                   have hcz49_0 : wr.cell? ⟨gb373, 0, none⟩ = some (.slice Ao9 t367.length co9) := (blk_cell BK373.out 0).trans rfl
                   have hcz49_1 : wr.cell? ⟨gb373, 1, none⟩ = some (.slice Ao11 t370.length co11) := (blk_cell BK373.out 1).trans rfl
                   have hfz49_0 := blk_frozen BK373.out 0
                   have hfz49_1 := blk_frozen BK373.out 1
                   have p388 : 0 ≤ (x11_5 : Int) := of_decide_eq_true (by first | (with_reducible assumption) | assumption)
                   have q388 : x11_5 < (t367.length : Int) := of_decide_eq_true (by first | (with_reducible assumption) | assumption)
                   obtain ⟨ad388, e388, hx388_0⟩ := Kd.at_int (Kd.R_reads' HO_374000.out).2.2 x11_5 p388 q388
                   cases e388
                   replace p388 := eq_true p388
                   replace q388 := eq_true q388
                   go_wp2_with (first | ((with_reducible refine gate_builtin (b := .append) (xs := #[.tmp 68, .tmp 74]) rfl ?_); at_builtin; refine Kd.R_append (Kd.int .i64) (w0 := w) w.heap.size rfl (.tmp 68) (.tmp 74) 69 3 (.int .i64 0) 8 rfl Tryd.underlying69 info3 rfl (by decide) (by omega) u8 x8_4 (rd t367 x11_5) [.int .i64 (rd t367 x11_5)] (fun k_ => some k_ ≠ (.slice (some ad388) t367.length co9 : Value).ownBlock ∧ some k_ ≠ (.slice Ao11 t370.length co11 : Value).ownBlock) (fun _ => False) rfl rfl ?aP (fun _ hk => hk.elim) ?aF ?aO ?aB ?aS ?aL ?_; (case aP => exact rfl); (case aB => exact (by repeat (first | (with_reducible first | exact HB.out | apply below_alloc | apply pw_below_drewN | apply below_drew1 | refine below_set ?_ GE373.out) | exact HB.out))); (case aF => exact (fun k_ hk => ⟨Kd.fresh' (Kd.R_lt (by (with_reducible repeat (first | apply Kd.R_alloc | apply Kd.R_drewN | apply Kd.R_drew)); exact HO_374000.out)) k_ hk, Kd.fresh' (Kd.R_lt (by (with_reducible repeat (first | apply Kd.R_alloc | apply Kd.R_drewN | apply Kd.R_drew)); exact HO_374001.out)) k_ hk⟩)); (case aO => exact (by (with_reducible repeat (first | apply Kd.R_alloc | apply Kd.R_drewN | apply Kd.R_drew)); exact HO_8.out)); (case aS => exact (below_size (by repeat (first | (with_reducible first | exact HB.out | apply below_alloc | apply pw_below_drewN | apply below_drew1 | refine below_set ?_ GE373.out) | exact HB.out)))); (case aL => have := LMc48.out; omega); intro v390 w50 ho hb hg hat; rw [← Ny389.out] at ho; have n0_ := Aside0.mk (Kd.R_after (ok := (fun k_ => some k_ ≠ (.slice Ao11 t370.length co11 : Value).ownBlock)) (by (with_reducible repeat (first | apply Kd.R_alloc | apply Kd.R_drewN | apply Kd.R_drew)); exact Kd.R_mono HO_374000.out (fun _ hk => ⟨hk.2, hk.1⟩)) hg hat); have n1_ := Aside0.mk (Kd.R_after (ok := (fun k_ => some k_ ≠ (.slice (some ad388) t367.length co9 : Value).ownBlock)) (by (with_reducible repeat (first | apply Kd.R_alloc | apply Kd.R_drewN | apply Kd.R_drew)); exact Kd.R_mono HO_374001.out (fun _ hk => ⟨hk.2, hk.1⟩)) hg hat); have n2_ := Aside0.mk (blk_grown (g := gb373) (o := .cells #[.slice (some ad388) t367.length co9, .slice Ao11 t370.length co11] 96 (0, 0)) (by (with_reducible repeat (first | refine blk_drewN ?_ _ | refine blk_drew ?_ | refine blk_alloc ?_ _)); exact BK373.out) hg (Kd.R_ne HO_8.out BK373.out (by decide))); have n3_ := Aside0.mk (hb); have n4_ := Aside0.mk (ho); clear HO_374000; clear HO_374001; clear BK373; clear HB; clear HO_8; have HO_374000 := n0_; have HO_374001 := n1_; have BK373 := n2_; have HB := n3_; have HO391 := n4_; clear n0_ n1_ n2_ n3_ n4_; clear ho hb hg hat))
                   go_roundg k5
                   case measure => have := HJ2.out; have := HK2.out; have := HJ12.out; have := HK4.out; have := HK5.out; omega
                   case rel => exact ⟨(y389), (x11_5), (by first | rfl | (simp; done) | (simp [*]; done)), H', ⟨by have := HJ2.out; have := HK2.out; have := HJ12.out; have := HK4.out; have := HK5.out; omega⟩, ⟨by (with_reducible repeat (first | apply Kd.R_alloc | apply Kd.R_drewN | apply Kd.R_drew)); exact HO391.out⟩, ⟨by (with_reducible repeat (first | apply Kd.R_alloc | apply Kd.R_drewN | apply Kd.R_drew)); exact Kd.R_mono HO_374000.out (fun _ hk => ⟨hk.2, hk.1⟩)⟩, ⟨by (with_reducible repeat (first | apply Kd.R_alloc | apply Kd.R_drewN | apply Kd.R_drew)); exact Kd.R_mono HO_374001.out (fun _ hk => ⟨hk.2, hk.1⟩)⟩, ⟨by (with_reducible repeat (first | refine blk_drewN ?_ _ | refine blk_drew ?_ | refine blk_alloc ?_ _)); exact BK373.out⟩, ⟨by repeat (first | (with_reducible first | exact HB.out | apply below_alloc | apply pw_below_drewN | apply below_drew1 | refine below_set ?_ GE373.out) | exact HB.out)⟩⟩
                  ·rw [if_neg c48] at H
                   exact absurd H (by simp)
                 ·rw [if_neg c47] at H
                  exact absurd H (by simp)
                ·rw [if_neg c46] at H
                 exact absurd H (by simp)
           ·rw [if_neg c20] at H
            have c20b0 : decide (a1 < (wrap64 (x10_12 - x9_4))) = false := decide_eq_false c20
            clear c20
            have H' := Aside0.mk H
            clear H
            go_wp2
            go_roundg k4
            case measure => have := HJ2.out; have := HK2.out; have := HJ12.out; have := HK4.out; omega
            case rel => exact ⟨(x8_4), (wrap64 (x10_12 + 1)), (by first | rfl | (simp; done) | (simp [*]; done)), H', ⟨by have := HJ2.out; have := HK2.out; have := HJ12.out; have := HK4.out; omega⟩, ⟨by (with_reducible repeat (first | apply Kd.R_alloc | apply Kd.R_drewN | apply Kd.R_drew)); exact HO_8.out⟩, ⟨by (with_reducible repeat (first | apply Kd.R_alloc | apply Kd.R_drewN | apply Kd.R_drew)); exact HO_374000.out⟩, ⟨by (with_reducible repeat (first | apply Kd.R_alloc | apply Kd.R_drewN | apply Kd.R_drew)); exact HO_374001.out⟩, ⟨by (with_reducible repeat (first | refine blk_drewN ?_ _ | refine blk_drew ?_ | refine blk_alloc ?_ _)); exact BK373.out⟩, ⟨by repeat (first | (with_reducible first | exact HB.out | apply below_alloc | apply pw_below_drewN | apply below_drew1 | refine below_set ?_ GE373.out) | exact HB.out)⟩⟩
      ·rw [if_neg c12] at H
       have c12b0 : decide (x9_2 < (t370.length : Int)) = false := decide_eq_false c12
       clear c12
       simp only [Option.some.injEq, Prod.mk.injEq] at H
       obtain ⟨rfl, rfl⟩ := H
       go_wp2
       go_ret2
       exact ⟨_, by first | rfl | (simp [errW_none, errW_some] <;> rfl) | (simp [*, errW_none, errW_some] <;> rfl), by (with_reducible repeat (first | apply Kd.R_alloc | apply Kd.R_drewN | apply Kd.R_drew)); exact Kd.R_mono HO_8.out (fun _ hk => trivial), by repeat (first | (with_reducible first | exact HB.out | apply below_alloc | apply pw_below_drewN | apply below_drew1 | refine below_set ?_ GE373.out) | exact HB.out)⟩

end Go.Proofs.YtijbkiajhicooaaDoor.PW

