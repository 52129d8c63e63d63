-- Written by merge.py, a program of this session's: PWx44 PWx45
import Derived.Test.YtijbkiajhicooaaDoorWordsOwnM2
import Derived.Test.YtijbkiajhicooaaDoorWordsOwnM5
namespace Go.Proofs.YtijbkiajhicooaaDoor.PW
open Go.RowKit Go.Proofs.YtijbkiajhicooaaDoorW.PrintWords Go.Proofs.YtijbkiajhicooaaDoorW.PrintLast Go.Proofs.YtijbkiajhicooaaDoorW.PrintMore
attribute [local go_sem] max2_int min2_int max_two min_two max_three min_three max_four min_four   -- for this text's walks alone
set_option linter.unusedVariables false
set_option linter.unusedSimpArgs false

def galleyref22_Of.l0 : Nat → List (S23) → Int → Int → List Int → List Int → Option (List Int × List Int)
 | 0, _, _, _, _, _ => none
 | k + 1, x3, x5, x6, x221000, x221001 => if x6 < (x3.length : Int) then (if 0 ≤ x6 then ((galleyref22_Kind.f k ((rd_T23 x3 x6).f0) ((rd_T23 x3 x6).f1) ((rd_T23 x3 x6).f2)).bind fun t222 => (if x221000.length < 17592186044416 then (if x221001.length < 17592186044416 then (galleyref22_Of.l0 k x3 (wrap64 (x5 + ((rd_T23 x3 x6).f1))) (wrap64 (x6 + 1)) (x221000 ++ [x5]) (x221001 ++ [t222])) else (none)) else (none))) else (none)) else (if x221000.length < 17592186044416 then (some ((x221000 ++ [x5]), x221001)) else (none))
def galleyref22_Of.f (k : Nat) (l0 : List Int) : Option (List Int × List Int) := (galleyref02_Steps.f k l0).bind fun t217 => (galleyref22_Of.l0 k t217 0 0 ([] : List Int) ([] : List Int))
set_option maxHeartbeats 8000000 in
set_option maxRecDepth 100000 in
theorem galleyref22_Of.calls (k : Nat) (A0 : Option Addr) (c0 : Nat) (l0 : List Int) (r1 : List Int) (r2 : List Int) (w : World) (hr0 : Kd.C (Kd.int .u8) w A0 l0.length l0) (hc0 : l0.length ≤ c0) (h : galleyref22_Of.f k l0 = some (r1, r2)) :
  Calls Tryd.prog 48 #[.slice A0 l0.length c0] w fun e w' => ∃ v0_ v1_ : Value, e = .returned (.agg #[v0_, v1_]) ∧ Kd.R (Kd.int .i64) 3 w' w.heap.size (fun k_ => some k_ ≠ (v1_ : Value).ownBlock) v0_ r1 ∧ Kd.R (Kd.int .i64) 3 w' w.heap.size (fun k_ => some k_ ≠ (v0_ : Value).ownBlock) v1_ r2 ∧ Below w.heap.size w w' := by
 have hu96 := Tryd.underlying96
 have hu23 := Tryd.underlying23
 have HR0 := Aside0.mk hr0
 have HC0 := Aside0.mk hc0
 clear hr0 hc0
 have HB := Aside0.mk (Below.refl w.heap.size w)
 have H : ((galleyref02_Steps.f k l0).bind fun t217 => (galleyref22_Of.l0 k t217 0 0 ([] : List Int) ([] : List Int))) = some (r1, r2) := h
 clear h
 replace H := Option.bind_eq_some_iff.mp H
 obtain ⟨t217, A20, H⟩ := H
 replace H : (galleyref22_Of.l0 k t217 0 0 ([] : List Int) ([] : List Int)) = some (r1, r2) := H
 have A2 := Aside0.mk A20
 clear A20
 have H' := Aside0.mk H
 clear H
 go_enter Tryd.func48, Tryd.ntmps48
 go_wp2_with (first | ((with_reducible refine gate_dst (N := 2) rfl ?_); refine box_event ?hg (N := 2) ?hd (cs := #[.slice none 0 0, .slice none 0 0]) (t := 96) ?hr ?_; (case hd => rfl); (case hg => rfl); (case hr => first | (go_simp; done) | (go_simp; rfl)); intro gb216 hg w3 hbox hb; have n0_ := Aside0.mk (below_step (by repeat (first | (with_reducible first | exact HB.out | apply below_alloc | apply pw_below_drewN | apply below_drew1) | exact HB.out)) hb); have n1_ := Aside0.mk (hbox); have n2_ := Aside0.mk ((by rw [hg]; exact (below_size (by repeat (first | (with_reducible first | exact HB.out | apply below_alloc | apply pw_below_drewN | apply below_drew1) | exact HB.out))) : w.heap.size ≤ gb216)); have n3_ := Aside0.mk ((by rw [hg]; exact (below_size (by repeat (first | (with_reducible first | exact HB.out | apply below_alloc | apply pw_below_drewN | apply below_drew1) | exact HB.out))) : w.heap.size ≤ gb216)); clear HB; have HB := n0_; have BK216 := n1_; have GW216 := n2_; have GE216 := n3_; clear n0_ n1_ n2_ n3_; clear hb hbox hg) | ((with_reducible refine gate_callee (f := 74) rfl ?_); refine goesL_ (some 9) rfl rfl Tryd.func74 (by kernel_rfl) rfl #[.slice A0 l0.length c0] rfl (by (try simp only [List.map_toArray, List.map_cons, List.map_nil]); first | done | rfl | (simp only [List.length_drop, List.length_take]; rfl)) ?_; (with_reducible refine (galleyref02_Steps.calls k _ _ l0 t217 _ ?side1 ?side2 A2.out).mono ?_); (case side1 => repeat (first | exact (Kd.C_below HR0.out HB.out) | (with_reducible refine Kd.C_alloc ?_ _) | (with_reducible refine Kd.C_drewN ?_ _) | (with_reducible refine Kd.C_drew ?_))); (case side2 => exact HC0.out); rintro e w4 ⟨v218, rfl, ho0, hb⟩; refine ⟨_, rfl, ?_⟩; have n0_ := Aside0.mk (Kd.R_lower ho0 (below_size (by repeat (first | (with_reducible first | exact HB.out | apply below_alloc | apply pw_below_drewN | apply below_drew1 | refine below_set ?_ GE216.out) | exact HB.out)))); have n1_ := Aside0.mk (blk_below (g := gb216) (o := .cells #[.slice none 0 0, .slice none 0 0] 96 (0, 0)) (by (with_reducible repeat (first | refine blk_drewN ?_ _ | refine blk_drew ?_ | refine blk_alloc ?_ _)); exact BK216.out) hb); have n2_ := Aside0.mk (below_step (by repeat (first | (with_reducible first | exact HB.out | apply below_alloc | apply pw_below_drewN | apply below_drew1 | refine below_set ?_ GE216.out) | exact HB.out)) hb); clear BK216; clear HB; have HO219 := n0_; have BK216 := n1_; have HB := n2_; clear n0_ n1_ n2_; (try clear hb); (try clear hb2); (try clear hk); (try clear hi); (try clear ho0)) | ((with_reducible refine gate_dst (N := 4) rfl ?_); refine box_event ?hg (N := 4) ?hd (cs := #[.slice none 0 0, .slice none 0 0]) (t := 96) ?hr ?_; (case hd => rfl); (case hg => rfl); (case hr => first | (go_simp; done) | (go_simp; rfl)); intro gb220 hg w5 hbox hb; have n0_ := Aside0.mk (Kd.R_below (by (with_reducible repeat (first | apply Kd.R_alloc | apply Kd.R_drewN | apply Kd.R_drew)); exact HO219.out) hb); have n1_ := Aside0.mk (blk_below (g := gb216) (o := .cells #[.slice none 0 0, .slice none 0 0] 96 (0, 0)) (by (with_reducible repeat (first | refine blk_drewN ?_ _ | refine blk_drew ?_ | refine blk_alloc ?_ _)); exact BK216.out) hb); have n2_ := Aside0.mk (below_step (by repeat (first | (with_reducible first | exact HB.out | apply below_alloc | apply pw_below_drewN | apply below_drew1 | refine below_set ?_ GE216.out) | exact HB.out)) hb); have n3_ := Aside0.mk (hbox); have n4_ := Aside0.mk ((by rw [hg]; exact (below_size (by repeat (first | (with_reducible first | exact HB.out | apply below_alloc | apply pw_below_drewN | apply below_drew1 | refine below_set ?_ GE216.out) | exact HB.out))) : w.heap.size ≤ gb220)); have n5_ := Aside0.mk ((by rw [hg]; exact (below_size (by repeat (first | (with_reducible first | exact HB.out | apply below_alloc | apply pw_below_drewN | apply below_drew1 | refine below_set ?_ GE216.out) | exact HB.out))) : w.heap.size ≤ gb220)); have n6_ := Aside0.mk ((by rw [hg]; exact Nat.ne_of_lt (blk_lt (g := gb216) (o := .cells #[.slice none 0 0, .slice none 0 0] 96 (0, 0)) (by (with_reducible repeat (first | refine blk_drewN ?_ _ | refine blk_drew ?_ | refine blk_alloc ?_ _)); exact BK216.out)) : gb216 ≠ gb220)); have n7_ := Aside0.mk ((by rw [hg]; exact Nat.ne_of_gt (blk_lt (g := gb216) (o := .cells #[.slice none 0 0, .slice none 0 0] 96 (0, 0)) (by (with_reducible repeat (first | refine blk_drewN ?_ _ | refine blk_drew ?_ | refine blk_alloc ?_ _)); exact BK216.out)) : gb220 ≠ gb216)); clear HO219; clear BK216; clear HB; have HO219 := n0_; have BK216 := n1_; have HB := n2_; have BK220 := n3_; have GW220 := n4_; have GE220 := n5_; have NB216_220 := n6_; have NB220_216 := n7_; clear n0_ n1_ n2_ n3_ n4_ n5_ n6_ n7_; clear hb hbox hg))
 go_loopg [5, 6] k (fun kq v5 v6 w' => ∃ (x5_1 : Int) (x6_1 : Int) (x221000_1 : List Int) (x221001_1 : List Int) (u221000 : Value) (u221001 : Value), v5 = .int .i64 x5_1 ∧ v6 = .int .i64 x6_1 ∧ Aside0 (galleyref22_Of.l0 kq t217 x5_1 x6_1 x221000_1 x221001_1 = some (r1, r2)) ∧ Aside0 (kq ≤ k) ∧ Aside0 (Kd.R k23 23 w' w.heap.size (fun _ => True) v218 t217) ∧ Aside0 (Kd.R (Kd.int .i64) 3 w' w.heap.size (fun k_ => some k_ ≠ (u221001 : Value).ownBlock) u221000 x221000_1) ∧ Aside0 (Kd.R (Kd.int .i64) 3 w' w.heap.size (fun k_ => some k_ ≠ (u221000 : Value).ownBlock) u221001 x221001_1) ∧ Aside0 (w'.heap[gb216]? = some (.cells #[(.slice none 0 0), (.slice none 0 0)] 96 (0, 0))) ∧ Aside0 (w'.heap[gb220]? = some (.cells #[u221000, u221001] 96 (0, 0))) ∧ Aside0 (Below w.heap.size w w'))
 case atStart => exact ⟨(0), (0), (([] : List Int)), (([] : List Int)), (.slice none 0 0), (.slice none 0 0), (by first | rfl | (simp; done) | (simp [*]; done)), (by first | rfl | (simp; done) | (simp [*]; done)), H', ⟨Nat.le_refl _⟩, ⟨by (with_reducible repeat (first | apply Kd.R_alloc | apply Kd.R_drewN | apply Kd.R_drew)); exact HO219.out⟩, ⟨by first | exact Kd.R_nil _ _ _ _ _ | exact Kd.N_nil _ _ _ _ _ | exact Kd.V_nil _ _ _ _ _ | exact Kd.Q_nil _ _ _ _ _ | exact Kd.S_nil _ _ _ _ _⟩, ⟨by first | exact Kd.R_nil _ _ _ _ _ | exact Kd.N_nil _ _ _ _ _ | exact Kd.V_nil _ _ _ _ _ | exact Kd.Q_nil _ _ _ _ _ | exact Kd.S_nil _ _ _ _ _⟩, ⟨by (with_reducible repeat (first | refine blk_drewN ?_ _ | refine blk_drew ?_ | refine blk_alloc ?_ _)); exact BK216.out⟩, ⟨by (with_reducible repeat (first | refine blk_drewN ?_ _ | refine blk_drew ?_ | refine blk_alloc ?_ _)); exact BK220.out⟩, ⟨by repeat (first | (with_reducible first | exact HB.out | apply below_alloc | apply pw_below_drewN | apply below_drew1 | refine below_set ?_ GE216.out | refine below_set ?_ GE220.out) | exact HB.out)⟩⟩
 case round =>
  clear H'
  try clear p2
  try clear c4
  obtain ⟨x5_1, x6_1, x221000_1, x221001_1, u221000, u221001, rfl, rfl, HA, HK1, HO_3, HO_221000, HO_221001, BK216, BK220, HB⟩ := hrel
  cases gk with
  | zero => exact absurd HA.out (by simp [galleyref22_Of.l0])
  | succ k1 =>
   have H := HA.out
   clear HA
   simp only [galleyref22_Of.l0] at H
   by_cases c6 : x6_1 < (t217.length : Int)
   ·rw [if_pos c6] at H
    have c6b0 : decide (x6_1 < (t217.length : Int)) = true := decide_eq_true c6
    clear c6
    by_cases c7 : 0 ≤ x6_1
    ·rw [if_pos c7] at H
     have c7b0 : decide (0 ≤ x6_1) = true := decide_eq_true c7
     clear c7
     replace H := Option.bind_eq_some_iff.mp H
     obtain ⟨t222, A80, H⟩ := H
     replace H : (if x221000_1.length < 17592186044416 then (if x221001_1.length < 17592186044416 then (galleyref22_Of.l0 k1 t217 (wrap64 (x5_1 + ((rd_T23 t217 x6_1).f1))) (wrap64 (x6_1 + 1)) (x221000_1 ++ [x5_1]) (x221001_1 ++ [t222])) else (none)) else (none)) = some (r1, r2) := H
     have A8 := Aside0.mk A80
     clear A80
     by_cases c9 : x221000_1.length < 17592186044416
     ·rw [if_pos c9] at H
      have LMc9 := Aside0.mk c9
      clear c9
      obtain ⟨y223, hy223⟩ : ∃ y_ : List Int, y_ = (x221000_1 ++ [x5_1]) := ⟨_, rfl⟩
      replace H : (if x221001_1.length < 17592186044416 then (galleyref22_Of.l0 k1 t217 (wrap64 (x5_1 + ((rd_T23 t217 x6_1).f1))) (wrap64 (x6_1 + 1)) y223 (x221001_1 ++ [t222])) else (none)) = some (r1, r2) := by first | (rw [hy223]; with_reducible exact H) | (have H2_ := (Option.bind_some _ _).symm.trans H; rw [hy223]; with_reducible exact H2_) | (have H2_ := (Option.bind_some _ _).symm.trans H; with_reducible exact H2_) | with_reducible exact H | (rw [hy223]; exact H) | exact H
      have Ny223 := Aside0.mk hy223
      clear hy223
      by_cases c10 : x221001_1.length < 17592186044416
      ·rw [if_pos c10] at H
       have LMc10 := Aside0.mk c10
       clear c10
       obtain ⟨y226, hy226⟩ : ∃ y_ : List Int, y_ = (x221001_1 ++ [t222]) := ⟨_, rfl⟩
       replace H : (galleyref22_Of.l0 k1 t217 (wrap64 (x5_1 + ((rd_T23 t217 x6_1).f1))) (wrap64 (x6_1 + 1)) y223 y226) = some (r1, r2) := by first | (rw [hy226]; with_reducible exact H) | (have H2_ := (Option.bind_some _ _).symm.trans H; rw [hy226]; with_reducible exact H2_) | (have H2_ := (Option.bind_some _ _).symm.trans H; with_reducible exact H2_) | with_reducible exact H | (rw [hy226]; exact H) | exact H
       have Ny226 := Aside0.mk hy226
       clear hy226
       have H' := Aside0.mk H
       clear H
       obtain ⟨Ao11, co11, eo11⟩ := Kd.R_slice HO_3.out
       subst eo11
       have p221 : 0 ≤ (x6_1 : Int) := of_decide_eq_true (by first | (with_reducible assumption) | assumption)
       have q221 : x6_1 < (t217.length : Int) := of_decide_eq_true (by first | (with_reducible assumption) | assumption)
       obtain ⟨ad221, e221, hx221_0, hx221_1, hx221_2⟩ := at_T23 (Kd.R_reads' HO_3.out).2.2 x6_1 p221 q221
       cases e221
       replace p221 := eq_true p221
       replace q221 := eq_true q221
       go_wp2_with (first | ((with_reducible refine gate_callee (f := 15) rfl ?_); refine goesL_ (some 20) rfl rfl Tryd.func15 (by kernel_rfl) rfl #[.agg #[.int .i32 ((rd_T23 t217 x6_1).f0), .int .i64 ((rd_T23 t217 x6_1).f1), .bool ((rd_T23 t217 x6_1).f2)]] rfl (by (try simp only [List.map_toArray, List.map_cons, List.map_nil]); first | done | rfl | (simp only [List.length_drop, List.length_take]; rfl)) ?_; (with_reducible refine (galleyref22_Kind.calls k1 ((rd_T23 t217 x6_1).f0) ((rd_T23 t217 x6_1).f1) ((rd_T23 t217 x6_1).f2) t222 _ A8.out).mono ?_); rintro e w12 ⟨rfl, hb⟩; refine ⟨_, rfl, ?_⟩; have n0_ := Aside0.mk (Kd.R_below (by (with_reducible repeat (first | apply Kd.R_alloc | apply Kd.R_drewN | apply Kd.R_drew)); exact HO_3.out) hb); have n1_ := Aside0.mk (Kd.R_below (by (with_reducible repeat (first | apply Kd.R_alloc | apply Kd.R_drewN | apply Kd.R_drew)); exact HO_221000.out) hb); have n2_ := Aside0.mk (Kd.R_below (by (with_reducible repeat (first | apply Kd.R_alloc | apply Kd.R_drewN | apply Kd.R_drew)); exact HO_221001.out) hb); have n3_ := Aside0.mk (blk_below (g := gb216) (o := .cells #[.slice none 0 0, .slice none 0 0] 96 (0, 0)) (by (with_reducible repeat (first | refine blk_drewN ?_ _ | refine blk_drew ?_ | refine blk_alloc ?_ _)); exact BK216.out) hb); have n4_ := Aside0.mk (blk_below (g := gb220) (o := .cells #[u221000, u221001] 96 (0, 0)) (by (with_reducible repeat (first | refine blk_drewN ?_ _ | refine blk_drew ?_ | refine blk_alloc ?_ _)); exact BK220.out) hb); have n5_ := Aside0.mk (below_step (by repeat (first | (with_reducible first | exact HB.out | apply below_alloc | apply pw_below_drewN | apply below_drew1 | refine below_set ?_ GE216.out | refine below_set ?_ GE220.out) | exact HB.out)) hb); clear HO_3; clear HO_221000; clear HO_221001; clear BK216; clear BK220; clear HB; have HO_3 := n0_; have HO_221000 := n1_; have HO_221001 := n2_; have BK216 := n3_; have BK220 := n4_; have HB := n5_; clear n0_ n1_ n2_ n3_ n4_ n5_; (try clear hb); (try clear hb2); (try clear hk); (try clear hi); have hnb13 := NB220_216.out; have hnc13 := NB216_220.out; have hcz14_0 : w12.cell? ⟨gb220, 0, none⟩ = some (u221000) := (blk_cell BK220.out 0).trans rfl; have hcz14_1 : w12.cell? ⟨gb220, 1, none⟩ = some (u221001) := (blk_cell BK220.out 1).trans rfl; have hfz14_0 := blk_frozen BK220.out 0; have hfz14_1 := blk_frozen BK220.out 1) | ((with_reducible refine gate_builtin (b := .append) (xs := #[.tmp 22, .tmp 24]) rfl ?_); at_builtin; refine Kd.R_append (Kd.int .i64) (w0 := w) w.heap.size rfl (.tmp 22) (.tmp 24) 69 3 (.int .i64 0) 8 rfl Tryd.underlying69 info3 rfl (by decide) (by omega) u221000 x221000_1 x5_1 [.int .i64 x5_1] (fun k_ => some k_ ≠ (u221001 : Value).ownBlock) (fun _ => False) rfl rfl ?aP (fun _ hk => hk.elim) ?aF ?aO ?aB ?aS ?aL ?_; (case aP => exact rfl); (case aB => exact (by repeat (first | (with_reducible first | exact HB.out | apply below_alloc | apply pw_below_drewN | apply below_drew1 | refine below_set ?_ GE216.out | refine below_set ?_ GE220.out) | exact HB.out))); (case aF => exact (fun k_ hk => Kd.fresh' (Kd.R_lt (by (with_reducible repeat (first | apply Kd.R_alloc | apply Kd.R_drewN | apply Kd.R_drew)); exact HO_221001.out)) k_ hk)); (case aO => exact (by (with_reducible repeat (first | apply Kd.R_alloc | apply Kd.R_drewN | apply Kd.R_drew)); exact HO_221000.out)); (case aS => exact (below_size (by repeat (first | (with_reducible first | exact HB.out | apply below_alloc | apply pw_below_drewN | apply below_drew1 | refine below_set ?_ GE216.out | refine below_set ?_ GE220.out) | exact HB.out)))); (case aL => have := LMc9.out; omega); intro v224 w15 ho hb hg hat; rw [← Ny223.out] at ho; have n0_ := Aside0.mk (Kd.R_over' (by (with_reducible repeat (first | apply Kd.R_alloc | apply Kd.R_drewN | apply Kd.R_drew)); exact HO_3.out) (Kd.R_typed (by (with_reducible repeat (first | apply Kd.R_alloc | apply Kd.R_drewN | apply Kd.R_drew)); exact HO_221000.out)) (by decide) hg); have n1_ := Aside0.mk (Kd.R_after (ok := (fun _ => True)) (by (with_reducible repeat (first | apply Kd.R_alloc | apply Kd.R_drewN | apply Kd.R_drew)); exact Kd.R_mono HO_221001.out (fun _ hk => ⟨trivial, hk⟩)) hg hat); have n2_ := Aside0.mk (blk_grown (g := gb216) (o := .cells #[.slice none 0 0, .slice none 0 0] 96 (0, 0)) (by (with_reducible repeat (first | refine blk_drewN ?_ _ | refine blk_drew ?_ | refine blk_alloc ?_ _)); exact BK216.out) hg (Kd.R_ne HO_221000.out BK216.out (by decide))); have n3_ := Aside0.mk (blk_grown (g := gb220) (o := .cells #[u221000, u221001] 96 (0, 0)) (by (with_reducible repeat (first | refine blk_drewN ?_ _ | refine blk_drew ?_ | refine blk_alloc ?_ _)); exact BK220.out) hg (Kd.R_ne HO_221000.out BK220.out (by decide))); have n4_ := Aside0.mk (hb); have n5_ := Aside0.mk (ho); clear HO_3; clear HO_221001; clear BK216; clear BK220; clear HB; clear HO_221000; have HO_3 := n0_; have HO_221001 := n1_; have BK216 := n2_; have BK220 := n3_; have HB := n4_; have HO225 := n5_; clear n0_ n1_ n2_ n3_ n4_ n5_; clear ho hb hg hat; obtain ⟨Ao16, co16, eo16⟩ := Kd.R_slice HO225.out; subst eo16; have hcz17_0 : w15.cell? ⟨gb220, 0, none⟩ = some (u221000) := (blk_cell BK220.out 0).trans rfl; have hcz17_1 : w15.cell? ⟨gb220, 1, none⟩ = some (u221001) := (blk_cell BK220.out 1).trans rfl; have hfz17_0 := blk_frozen BK220.out 0; have hfz17_1 := blk_frozen BK220.out 1) | ((with_reducible refine gate_builtin (b := .append) (xs := #[.tmp 28, .tmp 30]) rfl ?_); at_builtin; refine Kd.R_append (Kd.int .i64) (w0 := w) w.heap.size rfl (.tmp 28) (.tmp 30) 69 3 (.int .i64 0) 8 rfl Tryd.underlying69 info3 rfl (by decide) (by omega) u221001 x221001_1 t222 [.int .i64 t222] (fun k_ => some k_ ≠ (.slice Ao16 y223.length co16 : Value).ownBlock) (fun _ => False) rfl (by first | (go_simp; done) | (go_simp; rfl)) ?aP (fun _ hk => hk.elim) ?aF ?aO ?aB ?aS ?aL ?_; (case aP => exact rfl); (case aB => exact (by repeat (first | (with_reducible first | exact HB.out | apply below_alloc | apply pw_below_drewN | apply below_drew1 | refine below_set ?_ GE216.out | refine below_set ?_ GE220.out) | exact HB.out))); (case aF => exact (fun k_ hk => Kd.fresh' (Kd.R_lt (by (with_reducible repeat (first | apply Kd.R_alloc | apply Kd.R_drewN | apply Kd.R_drew)); exact (Kd.R_mono (Kd.R_far (p := ⟨gb220, 0, none⟩) (Kd.R_types HO225.out BK220.out (by decide)) (fun _ hk => hk.2) (.slice Ao16 y223.length co16)) (fun _ h_ => h_.1)))) k_ hk)); (case aO => exact (by (with_reducible repeat (first | apply Kd.R_alloc | apply Kd.R_drewN | apply Kd.R_drew)); exact Kd.R_mono (Kd.R_far (p := ⟨gb220, 0, none⟩) (Kd.R_types HO_221001.out BK220.out (by decide)) (fun _ hk => hk.2) (.slice Ao16 y223.length co16)) (fun _ hk => hk.1.2))); (case aS => exact (below_size (by repeat (first | (with_reducible first | exact HB.out | apply below_alloc | apply pw_below_drewN | apply below_drew1 | refine below_set ?_ GE216.out | refine below_set ?_ GE220.out) | exact HB.out)))); (case aL => have := LMc10.out; omega); intro v227 w18 ho hb hg hat; rw [← Ny226.out] at ho; have n0_ := Aside0.mk (Kd.R_over' (by (with_reducible repeat (first | apply Kd.R_alloc | apply Kd.R_drewN | apply Kd.R_drew)); exact (Kd.R_mono (Kd.R_far (p := ⟨gb220, 0, none⟩) (Kd.R_types HO_3.out BK220.out (by decide)) (fun _ hk => hk.2) (.slice Ao16 y223.length co16)) (fun _ h_ => h_.1))) (Kd.R_typed (by (with_reducible repeat (first | apply Kd.R_alloc | apply Kd.R_drewN | apply Kd.R_drew)); exact (Kd.R_mono (Kd.R_far (p := ⟨gb220, 0, none⟩) (Kd.R_types HO_221001.out BK220.out (by decide)) (fun _ hk => hk.2) (.slice Ao16 y223.length co16)) (fun _ h_ => h_.1)))) (by decide) hg); have n1_ := Aside0.mk (blk_grown (g := gb216) (o := .cells #[.slice none 0 0, .slice none 0 0] 96 (0, 0)) (by (with_reducible repeat (first | refine blk_drewN ?_ _ | refine blk_drew ?_ | refine blk_alloc ?_ _)); refine blk_far ?_ NB216_220.out _; (with_reducible repeat (first | refine blk_drewN ?_ _ | refine blk_drew ?_ | refine blk_alloc ?_ _)); exact BK216.out) hg (Kd.R_ne HO_221001.out BK216.out (by decide))); have n2_ := Aside0.mk (blk_grown (g := gb220) (o := .cells #[.slice Ao16 y223.length co16, u221001] 96 (0, 0)) (by (with_reducible repeat (first | refine blk_drewN ?_ _ | refine blk_drew ?_ | refine blk_alloc ?_ _)); refine blk_put (cs := #[u221000, u221001]) ?_ 0 _ rfl; (with_reducible repeat (first | refine blk_drewN ?_ _ | refine blk_drew ?_ | refine blk_alloc ?_ _)); exact BK220.out) hg (Kd.R_ne HO_221001.out BK220.out (by decide))); have n3_ := Aside0.mk (Kd.R_after (ok := (fun _ => True)) (by (with_reducible repeat (first | apply Kd.R_alloc | apply Kd.R_drewN | apply Kd.R_drew)); exact Kd.R_mono (Kd.R_far (p := ⟨gb220, 0, none⟩) (Kd.R_types HO225.out BK220.out (by decide)) (fun _ hk => hk.2) (.slice Ao16 y223.length co16)) (fun _ hk => ⟨trivial, hk.1⟩)) hg hat); have n4_ := Aside0.mk (hb); have n5_ := Aside0.mk (ho); clear HO_3; clear BK216; clear BK220; clear HO225; clear HB; clear HO_221001; have HO_3 := n0_; have BK216 := n1_; have BK220 := n2_; have HO225 := n3_; have HB := n4_; have HO228 := n5_; clear n0_ n1_ n2_ n3_ n4_ n5_; clear ho hb hg hat; obtain ⟨Ao19, co19, eo19⟩ := Kd.R_slice HO228.out; subst eo19; have hcz20_0 : w18.cell? ⟨gb220, 0, none⟩ = some (.slice Ao16 y223.length co16) := (blk_cell BK220.out 0).trans rfl; have hcz20_1 : w18.cell? ⟨gb220, 1, none⟩ = some (u221001) := (blk_cell BK220.out 1).trans rfl; have hfz20_0 := blk_frozen BK220.out 0; have hfz20_1 := blk_frozen BK220.out 1; have p229 : 0 ≤ (x6_1 : Int) := of_decide_eq_true (by first | (with_reducible assumption) | assumption); have q229 : x6_1 < (t217.length : Int) := of_decide_eq_true (by first | (with_reducible assumption) | assumption); obtain ⟨ad229, e229, hx229_0, hx229_1, hx229_2⟩ := at_T23 (Kd.R_reads' HO_3.out).2.2 x6_1 p229 q229; obtain rfl : ad221 = ad229 := (by injection e229); have hn229_0 : ad221.block ≠ gb220 := Kd.own_blk (Kd.R_ne HO_3.out BK220.out (by decide)); replace hx229_0 := (cell_far (p := ⟨gb220, 1, none⟩) (by first | (rw [add_block]; exact hn229_0) | (show (Addr.add _ _).block ≠ _; rw [add_block]; exact hn229_0) | exact hn229_0) (.slice Ao19 y226.length co19)).trans hx229_0; replace hx229_1 := (cell_far (p := ⟨gb220, 1, none⟩) (by first | (rw [add_block]; exact hn229_0) | (show (Addr.add _ _).block ≠ _; rw [add_block]; exact hn229_0) | exact hn229_0) (.slice Ao19 y226.length co19)).trans hx229_1; replace hx229_2 := (cell_far (p := ⟨gb220, 1, none⟩) (by first | (rw [add_block]; exact hn229_0) | (show (Addr.add _ _).block ≠ _; rw [add_block]; exact hn229_0) | exact hn229_0) (.slice Ao19 y226.length co19)).trans hx229_2; clear hn229_0; replace p229 := eq_true p229; replace q229 := eq_true q229))
       go_roundg k1
       case measure => have := HK1.out; omega
       case rel => exact ⟨(wrap64 (x5_1 + ((rd_T23 t217 x6_1).f1))), (wrap64 (x6_1 + 1)), (y223), (y226), (.slice Ao16 y223.length co16), (.slice Ao19 y226.length co19), (by first | rfl | (simp; done) | (simp [*]; done)), (by first | rfl | (simp; done) | (simp [*]; done)), H', ⟨by have := HK1.out; omega⟩, ⟨by (with_reducible repeat (first | apply Kd.R_alloc | apply Kd.R_drewN | apply Kd.R_drew)); exact Kd.R_mono (Kd.R_far (p := ⟨gb220, 1, none⟩) (Kd.R_types HO_3.out BK220.out (by decide)) (fun _ hk => hk.2) (.slice Ao19 y226.length co19)) (fun _ hk => trivial)⟩, ⟨by (with_reducible repeat (first | apply Kd.R_alloc | apply Kd.R_drewN | apply Kd.R_drew)); exact Kd.R_mono (Kd.R_far (p := ⟨gb220, 1, none⟩) (Kd.R_types HO225.out BK220.out (by decide)) (fun _ hk => hk.2) (.slice Ao19 y226.length co19)) (fun _ hk => hk.1.2)⟩, ⟨by (with_reducible repeat (first | apply Kd.R_alloc | apply Kd.R_drewN | apply Kd.R_drew)); exact Kd.R_mono (Kd.R_far (p := ⟨gb220, 1, none⟩) (Kd.R_types HO228.out BK220.out (by decide)) (fun _ hk => hk.2) (.slice Ao19 y226.length co19)) (fun _ hk => hk.1)⟩, ⟨by (with_reducible repeat (first | refine blk_drewN ?_ _ | refine blk_drew ?_ | refine blk_alloc ?_ _)); refine blk_far ?_ NB216_220.out _; (with_reducible repeat (first | refine blk_drewN ?_ _ | refine blk_drew ?_ | refine blk_alloc ?_ _)); exact BK216.out⟩, ⟨by (with_reducible repeat (first | refine blk_drewN ?_ _ | refine blk_drew ?_ | refine blk_alloc ?_ _)); refine blk_put (cs := #[.slice Ao16 y223.length co16, u221001]) ?_ 1 _ rfl; (with_reducible repeat (first | refine blk_drewN ?_ _ | refine blk_drew ?_ | refine blk_alloc ?_ _)); exact BK220.out⟩, ⟨by repeat (first | (with_reducible first | exact HB.out | apply below_alloc | apply pw_below_drewN | apply below_drew1 | refine below_set ?_ GE216.out | refine below_set ?_ GE220.out) | exact HB.out)⟩⟩
      ·rw [if_neg c10] at H
       exact absurd H (by simp)
     ·rw [if_neg c9] at H
      exact absurd H (by simp)
    ·rw [if_neg c7] at H
     exact absurd H (by simp)
   ·rw [if_neg c6] at H
    have c6b0 : decide (x6_1 < (t217.length : Int)) = false := decide_eq_false c6
    clear c6
    by_cases c21 : x221000_1.length < 17592186044416
    ·rw [if_pos c21] at H
     have LMc21 := Aside0.mk c21
     clear c21
     obtain ⟨y230, hy230⟩ : ∃ y_ : List Int, y_ = (x221000_1 ++ [x5_1]) := ⟨_, rfl⟩
     replace H : (some (y230, x221001_1)) = some (r1, r2) := by first | (rw [hy230]; with_reducible exact H) | (have H2_ := (Option.bind_some _ _).symm.trans H; rw [hy230]; with_reducible exact H2_) | (have H2_ := (Option.bind_some _ _).symm.trans H; with_reducible exact H2_) | with_reducible exact H | (rw [hy230]; exact H) | exact H
     have Ny230 := Aside0.mk hy230
     clear hy230
     simp only [Option.some.injEq, Prod.mk.injEq] at H
     obtain ⟨rfl, rfl⟩ := H
     obtain ⟨Ao22, co22, eo22⟩ := Kd.R_slice HO_3.out
     subst eo22
     have hnb23 := NB220_216.out
     have hnc23 := NB216_220.out
     have hcz24_0 : wr.cell? ⟨gb220, 0, none⟩ = some (u221000) := (blk_cell BK220.out 0).trans rfl
     have hcz24_1 : wr.cell? ⟨gb220, 1, none⟩ = some (u221001) := (blk_cell BK220.out 1).trans rfl
     have hfz24_0 := blk_frozen BK220.out 0
     have hfz24_1 := blk_frozen BK220.out 1
     go_wp2_with (first | ((with_reducible refine gate_builtin (b := .append) (xs := #[.tmp 41, .tmp 43]) rfl ?_); at_builtin; refine Kd.R_append (Kd.int .i64) (w0 := w) w.heap.size rfl (.tmp 41) (.tmp 43) 69 3 (.int .i64 0) 8 rfl Tryd.underlying69 info3 rfl (by decide) (by omega) u221000 x221000_1 x5_1 [.int .i64 x5_1] (fun k_ => some k_ ≠ (u221001 : Value).ownBlock) (fun _ => False) rfl rfl ?aP (fun _ hk => hk.elim) ?aF ?aO ?aB ?aS ?aL ?_; (case aP => exact rfl); (case aB => exact (by repeat (first | (with_reducible first | exact HB.out | apply below_alloc | apply pw_below_drewN | apply below_drew1 | refine below_set ?_ GE216.out | refine below_set ?_ GE220.out) | exact HB.out))); (case aF => exact (fun k_ hk => Kd.fresh' (Kd.R_lt (by (with_reducible repeat (first | apply Kd.R_alloc | apply Kd.R_drewN | apply Kd.R_drew)); exact HO_221001.out)) k_ hk)); (case aO => exact (by (with_reducible repeat (first | apply Kd.R_alloc | apply Kd.R_drewN | apply Kd.R_drew)); exact HO_221000.out)); (case aS => exact (below_size (by repeat (first | (with_reducible first | exact HB.out | apply below_alloc | apply pw_below_drewN | apply below_drew1 | refine below_set ?_ GE216.out | refine below_set ?_ GE220.out) | exact HB.out)))); (case aL => have := LMc21.out; omega); intro v231 w25 ho hb hg hat; rw [← Ny230.out] at ho; have n0_ := Aside0.mk (Kd.R_over' (by (with_reducible repeat (first | apply Kd.R_alloc | apply Kd.R_drewN | apply Kd.R_drew)); exact HO_3.out) (Kd.R_typed (by (with_reducible repeat (first | apply Kd.R_alloc | apply Kd.R_drewN | apply Kd.R_drew)); exact HO_221000.out)) (by decide) hg); have n1_ := Aside0.mk (Kd.R_after (ok := (fun _ => True)) (by (with_reducible repeat (first | apply Kd.R_alloc | apply Kd.R_drewN | apply Kd.R_drew)); exact Kd.R_mono HO_221001.out (fun _ hk => ⟨trivial, hk⟩)) hg hat); have n2_ := Aside0.mk (blk_grown (g := gb216) (o := .cells #[.slice none 0 0, .slice none 0 0] 96 (0, 0)) (by (with_reducible repeat (first | refine blk_drewN ?_ _ | refine blk_drew ?_ | refine blk_alloc ?_ _)); exact BK216.out) hg (Kd.R_ne HO_221000.out BK216.out (by decide))); have n3_ := Aside0.mk (blk_grown (g := gb220) (o := .cells #[u221000, u221001] 96 (0, 0)) (by (with_reducible repeat (first | refine blk_drewN ?_ _ | refine blk_drew ?_ | refine blk_alloc ?_ _)); exact BK220.out) hg (Kd.R_ne HO_221000.out BK220.out (by decide))); have n4_ := Aside0.mk (hb); have n5_ := Aside0.mk (ho); clear HO_3; clear HO_221001; clear BK216; clear BK220; clear HB; clear HO_221000; have HO_3 := n0_; have HO_221001 := n1_; have BK216 := n2_; have BK220 := n3_; have HB := n4_; have HO232 := n5_; clear n0_ n1_ n2_ n3_ n4_ n5_; clear ho hb hg hat; obtain ⟨Ao26, co26, eo26⟩ := Kd.R_slice HO232.out; subst eo26; have hcz27_0 : w25.cell? ⟨gb220, 0, none⟩ = some (u221000) := (blk_cell BK220.out 0).trans rfl; have hcz27_1 : w25.cell? ⟨gb220, 1, none⟩ = some (u221001) := (blk_cell BK220.out 1).trans rfl; have hfz27_0 := blk_frozen BK220.out 0; have hfz27_1 := blk_frozen BK220.out 1; have hcz28_0 : w25.cell? ⟨gb216, 0, none⟩ = some (.slice none 0 0) := (blk_cell BK216.out 0).trans rfl; have hcz28_1 : w25.cell? ⟨gb216, 1, none⟩ = some (.slice none 0 0) := (blk_cell BK216.out 1).trans rfl; have hfz28_0 := blk_frozen BK216.out 0; have hfz28_1 := blk_frozen BK216.out 1; obtain ⟨Ao29, co29, eo29⟩ := Kd.R_slice HO_221001.out; subst eo29))
     refine bodyPost_ret (results_cell_row rfl _ _ gb216 96 #[.slice Ao26 y230.length co26, .slice Ao29 x221001_1.length co29] (0, 0) _ rfl (by (with_reducible repeat (first | refine blk_drewN ?_ _ | refine blk_drew ?_ | refine blk_alloc ?_ _)); refine blk_put (cs := #[.slice Ao26 y230.length co26, .slice none 0 0]) ?_ 1 _ rfl; (with_reducible repeat (first | refine blk_drewN ?_ _ | refine blk_drew ?_ | refine blk_alloc ?_ _)); refine blk_put (cs := #[.slice none 0 0, .slice none 0 0]) ?_ 0 _ rfl; (with_reducible repeat (first | refine blk_drewN ?_ _ | refine blk_drew ?_ | refine blk_alloc ?_ _)); refine blk_far ?_ NB216_220.out _; (with_reducible repeat (first | refine blk_drewN ?_ _ | refine blk_drew ?_ | refine blk_alloc ?_ _)); exact BK216.out) Tryd.underlying96 rfl (by kernel_rfl)) rfl ?_
     exact ⟨_, _, by first | rfl | (simp [errW_none, errW_some] <;> rfl) | (simp [*, errW_none, errW_some] <;> rfl), by (with_reducible repeat (first | apply Kd.R_alloc | apply Kd.R_drewN | apply Kd.R_drew)); exact Kd.R_mono (Kd.R_far (p := ⟨gb216, 1, none⟩) (Kd.R_far (p := ⟨gb216, 0, none⟩) (Kd.R_far (p := ⟨gb220, 0, none⟩) (Kd.R_types (Kd.R_types HO232.out BK220.out (by decide)) BK216.out (by decide)) (fun _ hk => hk.1.2) (.slice Ao26 y230.length co26)) (fun _ hk => hk.2) (.slice Ao26 y230.length co26)) (fun _ hk => hk.2) (.slice Ao29 x221001_1.length co29)) (fun _ hk => hk.1.1), by (with_reducible repeat (first | apply Kd.R_alloc | apply Kd.R_drewN | apply Kd.R_drew)); exact Kd.R_mono (Kd.R_far (p := ⟨gb216, 1, none⟩) (Kd.R_far (p := ⟨gb216, 0, none⟩) (Kd.R_far (p := ⟨gb220, 0, none⟩) (Kd.R_types (Kd.R_types HO_221001.out BK220.out (by decide)) BK216.out (by decide)) (fun _ hk => hk.1.2) (.slice Ao26 y230.length co26)) (fun _ hk => hk.2) (.slice Ao26 y230.length co26)) (fun _ hk => hk.2) (.slice Ao29 x221001_1.length co29)) (fun _ hk => hk.1.1.2), by repeat (first | (with_reducible first | exact HB.out | apply below_alloc | apply pw_below_drewN | apply below_drew1 | refine below_set ?_ GE216.out | refine below_set ?_ GE220.out) | exact HB.out)⟩
    ·rw [if_neg c21] at H
     exact absurd H (by simp)

end Go.Proofs.YtijbkiajhicooaaDoor.PW

namespace Go.Proofs.YtijbkiajhicooaaDoor.PW
open Go.RowKit Go.Proofs.YtijbkiajhicooaaDoorW.PrintWords Go.Proofs.YtijbkiajhicooaaDoorW.PrintLast Go.Proofs.YtijbkiajhicooaaDoorW.PrintMore
attribute [local go_sem] max2_int min2_int max_two min_two max_three min_three max_four min_four   -- for this text's walks alone
set_option linter.unusedVariables false
set_option linter.unusedSimpArgs false

def galleyref22_Runs.l0 : Nat → List (S36) → List Int → Int → List Int → List Int → Option ((List (S36)) × List Int)
 | 0, _, _, _, _, _ => none
 | k + 1, x5, x6, x7, x240000, x240001 => if x7 < (x240001.length : Int) then (if x7 = 0 then (if 0 ≤ x7 then (if x7 < (x240000.length : Int) then (if x5.length < 8796093022208 then ((some (x5 ++ [(⟨rd x240000 x7, rd x240000 x7⟩ : S36)] : List (S36))).bind fun y242 => (if x6.length < 17592186044416 then (if 0 ≤ (wrap64 (x7 + 1)) then (if (wrap64 (x7 + 1)) < (x240000.length : Int) then (if 0 ≤ (wrap64 ((y242.length : Int) - 1)) then (if (wrap64 ((y242.length : Int) - 1)) < (y242.length : Int) then (galleyref22_Runs.l0 k (y242.set ((wrap64 ((y242.length : Int) - 1)) : Int).toNat (⟨(rd_T36 y242 (wrap64 ((y242.length : Int) - 1))).f0, rd x240000 (wrap64 (x7 + 1))⟩ : S36)) (x6 ++ [rd x240001 x7]) (wrap64 (x7 + 1)) x240000 x240001) else (none)) else (none)) else (none)) else (none)) else (none))) else (none)) else (none)) else (none)) else (if 0 ≤ x7 then (if 0 ≤ (wrap64 (x7 - 1)) then (if (wrap64 (x7 - 1)) < (x240001.length : Int) then (if (rd x240001 x7) = (rd x240001 (wrap64 (x7 - 1))) then (if 0 ≤ (wrap64 (x7 + 1)) then (if (wrap64 (x7 + 1)) < (x240000.length : Int) then (if 0 ≤ (wrap64 ((x5.length : Int) - 1)) then (if (wrap64 ((x5.length : Int) - 1)) < (x5.length : Int) then (galleyref22_Runs.l0 k (x5.set ((wrap64 ((x5.length : Int) - 1)) : Int).toNat (⟨(rd_T36 x5 (wrap64 ((x5.length : Int) - 1))).f0, rd x240000 (wrap64 (x7 + 1))⟩ : S36)) x6 (wrap64 (x7 + 1)) x240000 x240001) else (none)) else (none)) else (none)) else (none)) else (if x7 < (x240000.length : Int) then (if x5.length < 8796093022208 then ((some (x5 ++ [(⟨rd x240000 x7, rd x240000 x7⟩ : S36)] : List (S36))).bind fun y257 => (if x6.length < 17592186044416 then (if 0 ≤ (wrap64 (x7 + 1)) then (if (wrap64 (x7 + 1)) < (x240000.length : Int) then (if 0 ≤ (wrap64 ((y257.length : Int) - 1)) then (if (wrap64 ((y257.length : Int) - 1)) < (y257.length : Int) then (galleyref22_Runs.l0 k (y257.set ((wrap64 ((y257.length : Int) - 1)) : Int).toNat (⟨(rd_T36 y257 (wrap64 ((y257.length : Int) - 1))).f0, rd x240000 (wrap64 (x7 + 1))⟩ : S36)) (x6 ++ [rd x240001 x7]) (wrap64 (x7 + 1)) x240000 x240001) else (none)) else (none)) else (none)) else (none)) else (none))) else (none)) else (none))) else (none)) else (none)) else (none))) else (some (x5, x6))
def galleyref22_Runs.f (k : Nat) (l0 : List Int) : Option ((List (S36)) × List Int) := (galleyref22_Of.f k l0).bind fun bt233 => (galleyref22_Runs.l0 k ([] : List (S36)) ([] : List Int) 0 bt233.1 bt233.2)
def galleyref22_Runs.T7 : Bool × List (List Nat × List Nat) := (true, [([], []), ([0], [0]), ([1], [1]), ([2], [2]), ([3, 2], [2, 3]), ([2], [2]), ([4, 5, 2], [2, 4, 5]), ([6, 2], [2, 6]), ([2], [2]), ([8, 2], [2, 8]), ([2], [2]), ([10, 2], [2, 10]), ([9, 11, 2], [2, 9, 11]), ([12, 2], [2, 12]), ([7, 13, 2], [2, 7, 13]), ([2, 14], [2, 14])])
def galleyref22_Runs.B7 : List Nat := [0, 1, 3, 7, 15, 7, 63, 127, 7, 263, 7, 1031, 3847, 7943, 16383, 32767]
theorem galleyref22_Runs.tab7 : rtab .any (opsOf Tryd.f43 7) = galleyref22_Runs.T7 := by kernel_rfl
theorem galleyref22_Runs.bits7 : waitsOk galleyref22_Runs.T7.2 galleyref22_Runs.B7 = true := by kernel_rfl
def galleyref22_Runs.T8 : Bool × List (List Nat × List Nat) := (true, [([], []), ([], []), ([1], [1]), ([], []), ([2, 3], [2, 3]), ([4], [4]), ([], []), ([6], [6]), ([], []), ([7, 8], [7, 8]), ([9], [9]), ([5, 10], [5, 10]), ([11], [11]), ([0, 12], [0, 12]), ([13, 13, 0, 1, 2, 3, 4, 5, 6, 7, 8, 9, 10, 11, 12, 13], [0, 13])])
def galleyref22_Runs.B8 : List Nat := [0, 0, 2, 0, 14, 30, 0, 64, 0, 448, 960, 2046, 4094, 8191, 16383]
theorem galleyref22_Runs.tab8 : rtab .any (opsOf Tryd.f43 8) = galleyref22_Runs.T8 := by kernel_rfl
theorem galleyref22_Runs.bits8 : waitsOk galleyref22_Runs.T8.2 galleyref22_Runs.B8 = true := by kernel_rfl
set_option maxHeartbeats 8000000 in
set_option maxRecDepth 100000 in
theorem galleyref22_Runs.calls (k : Nat) (A0 : Option Addr) (c0 : Nat) (l0 : List Int) (r1 : List (S36)) (r2 : List Int) (w : World) (hr0 : Kd.C (Kd.int .u8) w A0 l0.length l0) (hc0 : l0.length ≤ c0) (h : galleyref22_Runs.f k l0 = some (r1, r2)) :
  Calls Tryd.prog 43 #[.slice A0 l0.length c0] w fun e w' => ∃ v0_ v1_ : Value, e = .returned (.tuple #[v0_, v1_]) ∧ Kd.R k36 36 w' w.heap.size (fun _ => True) v0_ r1 ∧ Kd.R (Kd.int .i64) 3 w' w.heap.size (fun _ => True) v1_ r2 ∧ Below w.heap.size w w' := by
 have hu96 := Tryd.underlying96
 have hu36 := Tryd.underlying36
 have HR0 := Aside0.mk hr0
 have HC0 := Aside0.mk hc0
 clear hr0 hc0
 have HB := Aside0.mk (Below.refl w.heap.size w)
 have H : ((galleyref22_Of.f k l0).bind fun bt233 => (galleyref22_Runs.l0 k ([] : List (S36)) ([] : List Int) 0 bt233.1 bt233.2)) = some (r1, r2) := h
 clear h
 replace H := Option.bind_eq_some_iff.mp H
 obtain ⟨⟨t233, t236⟩, A20, H⟩ := H
 replace H : (galleyref22_Runs.l0 k ([] : List (S36)) ([] : List Int) 0 t233 t236) = some (r1, r2) := H
 have A2 := Aside0.mk A20
 clear A20
 have H' := Aside0.mk H
 clear H
 go_enter Tryd.func43, Tryd.ntmps43
 go_wp2_with (first | ((with_reducible refine gate_callee (f := 48) rfl ?_); refine goesL_ (some 9) rfl rfl Tryd.func48 (by kernel_rfl) rfl #[.slice A0 l0.length c0] rfl (by (try simp only [List.map_toArray, List.map_cons, List.map_nil]); first | done | rfl | (simp only [List.length_drop, List.length_take]; rfl)) ?_; (with_reducible refine (galleyref22_Of.calls k _ _ l0 t233 t236 _ ?side1 ?side2 A2.out).mono ?_); (case side1 => repeat (first | exact HR0.out | (with_reducible refine Kd.C_alloc ?_ _) | (with_reducible refine Kd.C_drewN ?_ _) | (with_reducible refine Kd.C_drew ?_))); (case side2 => exact HC0.out); rintro e w3 ⟨v234, v237, rfl, ho0, ho1, hb⟩; refine ⟨_, rfl, ?_⟩; have n0_ := Aside0.mk (Kd.R_lower ho0 (below_size (by repeat (first | (with_reducible first | exact HB.out | apply below_alloc | apply pw_below_drewN | apply below_drew1) | exact HB.out)))); have n1_ := Aside0.mk (Kd.R_lower ho1 (below_size (by repeat (first | (with_reducible first | exact HB.out | apply below_alloc | apply pw_below_drewN | apply below_drew1) | exact HB.out)))); have n2_ := Aside0.mk (below_step (by repeat (first | (with_reducible first | exact HB.out | apply below_alloc | apply pw_below_drewN | apply below_drew1) | exact HB.out)) hb); clear HB; have HO235 := n0_; have HO238 := n1_; have HB := n2_; clear n0_ n1_ n2_; (try clear hb); (try clear hb2); (try clear hk); (try clear hi); (try clear ho0); (try clear ho1)) | ((with_reducible refine gate_dst (N := 4) rfl ?_); refine box_event ?hg (N := 4) ?hd (cs := #[.slice none 0 0, .slice none 0 0]) (t := 96) ?hr ?_; (case hd => rfl); (case hg => rfl); (case hr => first | (go_simp; done) | (go_simp; rfl)); intro gb239 hg w4 hbox hb; have n0_ := Aside0.mk (Kd.R_below (by (with_reducible repeat (first | apply Kd.R_alloc | apply Kd.R_drewN | apply Kd.R_drew)); exact HO235.out) hb); have n1_ := Aside0.mk (Kd.R_below (by (with_reducible repeat (first | apply Kd.R_alloc | apply Kd.R_drewN | apply Kd.R_drew)); exact HO238.out) hb); have n2_ := Aside0.mk (below_step (by repeat (first | (with_reducible first | exact HB.out | apply below_alloc | apply pw_below_drewN | apply below_drew1) | exact HB.out)) hb); have n3_ := Aside0.mk (hbox); have n4_ := Aside0.mk ((by rw [hg]; exact (below_size (by repeat (first | (with_reducible first | exact HB.out | apply below_alloc | apply pw_below_drewN | apply below_drew1) | exact HB.out))) : w.heap.size ≤ gb239)); have n5_ := Aside0.mk ((by rw [hg]; exact (below_size (by repeat (first | (with_reducible first | exact HB.out | apply below_alloc | apply pw_below_drewN | apply below_drew1) | exact HB.out))) : w.heap.size ≤ gb239)); clear HO235; clear HO238; clear HB; have HO235 := n0_; have HO238 := n1_; have HB := n2_; have BK239 := n3_; have GW239 := n4_; have GE239 := n5_; clear n0_ n1_ n2_ n3_ n4_ n5_; clear hb hbox hg; obtain ⟨Ao5, co5, eo5⟩ := Kd.R_slice HO235.out; subst eo5; have hcz6_0 : w4.cell? ⟨gb239, 0, none⟩ = some (.slice none 0 0) := (blk_cell BK239.out 0).trans rfl; have hcz6_1 : w4.cell? ⟨gb239, 1, none⟩ = some (.slice none 0 0) := (blk_cell BK239.out 1).trans rfl; have hfz6_0 := blk_frozen BK239.out 0; have hfz6_1 := blk_frozen BK239.out 1; obtain ⟨Ao7, co7, eo7⟩ := Kd.R_slice HO238.out; subst eo7))
 go_loopg [5, 6, 7] k (fun kq v5 v6 v7 w' => ∃ (x5_1 : List (S36)) (x6_1 : List Int) (x7_1 : Int), v7 = .int .i64 x7_1 ∧ Aside0 (galleyref22_Runs.l0 kq x5_1 x6_1 x7_1 t233 t236 = some (r1, r2)) ∧ Aside0 (kq ≤ k) ∧ Aside0 (Kd.R k36 36 w' w.heap.size (fun _ => True) v5 x5_1) ∧ Aside0 (Kd.R (Kd.int .i64) 3 w' w.heap.size (fun k_ => some k_ ≠ ((.slice Ao5 t233.length co5) : Value).ownBlock ∧ some k_ ≠ ((.slice Ao7 t236.length co7) : Value).ownBlock) v6 x6_1) ∧ Aside0 (Kd.R (Kd.int .i64) 3 w' w.heap.size (fun k_ => some k_ ≠ (v6 : Value).ownBlock ∧ some k_ ≠ ((.slice Ao7 t236.length co7) : Value).ownBlock) (.slice Ao5 t233.length co5) t233) ∧ Aside0 (Kd.R (Kd.int .i64) 3 w' w.heap.size (fun k_ => some k_ ≠ (v6 : Value).ownBlock ∧ some k_ ≠ ((.slice Ao5 t233.length co5) : Value).ownBlock) (.slice Ao7 t236.length co7) t236) ∧ Aside0 (w'.heap[gb239]? = some (.cells #[(.slice Ao5 t233.length co5), (.slice Ao7 t236.length co7)] 96 (0, 0))) ∧ Aside0 (Below w.heap.size w w'))
 case atStart => exact ⟨(([] : List (S36))), (([] : List Int)), (0), (by first | rfl | (simp; done) | (simp [*]; done)), H', ⟨Nat.le_refl _⟩, ⟨by first | exact Kd.R_nil _ _ _ _ _ | exact Kd.N_nil _ _ _ _ _ | exact Kd.V_nil _ _ _ _ _ | exact Kd.Q_nil _ _ _ _ _ | exact Kd.S_nil _ _ _ _ _⟩, ⟨by first | exact Kd.R_nil _ _ _ _ _ | exact Kd.N_nil _ _ _ _ _ | exact Kd.V_nil _ _ _ _ _ | exact Kd.Q_nil _ _ _ _ _ | exact Kd.S_nil _ _ _ _ _⟩, ⟨by (with_reducible repeat (first | apply Kd.R_alloc | apply Kd.R_drewN | apply Kd.R_drew)); exact Kd.R_mono (Kd.R_far (p := ⟨gb239, 1, none⟩) (Kd.R_far (p := ⟨gb239, 0, none⟩) (Kd.R_types HO235.out BK239.out (by decide)) (fun _ hk => hk.2) (.slice Ao5 t233.length co5)) (fun _ hk => hk.2) (.slice Ao7 t236.length co7)) (fun _ hk => ⟨(by simp [Value.ownBlock]), hk.1⟩)⟩, ⟨by (with_reducible repeat (first | apply Kd.R_alloc | apply Kd.R_drewN | apply Kd.R_drew)); exact Kd.R_mono (Kd.R_far (p := ⟨gb239, 1, none⟩) (Kd.R_far (p := ⟨gb239, 0, none⟩) (Kd.R_types HO238.out BK239.out (by decide)) (fun _ hk => hk.2) (.slice Ao5 t233.length co5)) (fun _ hk => hk.2) (.slice Ao7 t236.length co7)) (fun _ hk => ⟨(by simp [Value.ownBlock]), hk.1⟩)⟩, ⟨by (with_reducible repeat (first | refine blk_drewN ?_ _ | refine blk_drew ?_ | refine blk_alloc ?_ _)); refine blk_put (cs := #[.slice Ao5 t233.length co5, .slice none 0 0]) ?_ 1 _ rfl; (with_reducible repeat (first | refine blk_drewN ?_ _ | refine blk_drew ?_ | refine blk_alloc ?_ _)); refine blk_put (cs := #[.slice none 0 0, .slice none 0 0]) ?_ 0 _ rfl; (with_reducible repeat (first | refine blk_drewN ?_ _ | refine blk_drew ?_ | refine blk_alloc ?_ _)); exact BK239.out⟩, ⟨by repeat (first | (with_reducible first | exact HB.out | apply below_alloc | apply pw_below_drewN | apply below_drew1 | refine below_set ?_ GE239.out) | exact HB.out)⟩⟩
 case round =>
  clear H'
  try clear p2
  try clear c4
  try clear hcz6_0
  try clear hcz6_1
  try clear hfz6_0
  try clear hfz6_1
  obtain ⟨x5_1, x6_1, x7_1, rfl, HA, HK1, HO_5, HO_6, HO_240000, HO_240001, BK239, HB⟩ := hrel
  cases gk with
  | zero => exact absurd HA.out (by simp [galleyref22_Runs.l0])
  | succ k1 =>
   have H := HA.out
   clear HA
   simp only [galleyref22_Runs.l0] at H
   by_cases c8 : x7_1 < (t236.length : Int)
   ·rw [if_pos c8] at H
    have c8b0 : decide (x7_1 < (t236.length : Int)) = true := decide_eq_true c8
    clear c8
    by_cases c9 : x7_1 = 0
    ·rw [if_pos c9] at H
     have c9b0 : (x7_1 == 0) = true := beq_iff_eq.mpr c9
     have c9b1 : (x7_1 != 0) = false := bne_eq_false_iff_eq.mpr c9
     clear c9
     by_cases c10 : 0 ≤ x7_1
     ·rw [if_pos c10] at H
      have c10b0 : decide (0 ≤ x7_1) = true := decide_eq_true c10
      clear c10
      by_cases c11 : x7_1 < (t233.length : Int)
      ·rw [if_pos c11] at H
       have c11b0 : decide (x7_1 < (t233.length : Int)) = true := decide_eq_true c11
       clear c11
       by_cases c12 : x5_1.length < 8796093022208
       ·rw [if_pos c12] at H
        have LMc12 := Aside0.mk c12
        clear c12
        obtain ⟨y242, hy242⟩ : ∃ y_ : List (S36), y_ = (x5_1 ++ [(⟨rd t233 x7_1, rd t233 x7_1⟩ : S36)]) := ⟨_, rfl⟩
        replace H : (if x6_1.length < 17592186044416 then (if 0 ≤ (wrap64 (x7_1 + 1)) then (if (wrap64 (x7_1 + 1)) < (t233.length : Int) then (if 0 ≤ (wrap64 ((y242.length : Int) - 1)) then (if (wrap64 ((y242.length : Int) - 1)) < (y242.length : Int) then (galleyref22_Runs.l0 k1 (y242.set ((wrap64 ((y242.length : Int) - 1)) : Int).toNat (⟨(rd_T36 y242 (wrap64 ((y242.length : Int) - 1))).f0, rd t233 (wrap64 (x7_1 + 1))⟩ : S36)) (x6_1 ++ [rd t236 x7_1]) (wrap64 (x7_1 + 1)) t233 t236) else (none)) else (none)) else (none)) else (none)) else (none)) = some (r1, r2) := by first | (rw [hy242]; with_reducible exact H) | (have H2_ := (Option.bind_some _ _).symm.trans H; rw [hy242]; with_reducible exact H2_) | (have H2_ := (Option.bind_some _ _).symm.trans H; with_reducible exact H2_) | with_reducible exact H | (rw [hy242]; exact H) | exact H
        have Ny242 := Aside0.mk hy242
        clear hy242
        by_cases c13 : x6_1.length < 17592186044416
        ·rw [if_pos c13] at H
         have LMc13 := Aside0.mk c13
         clear c13
         obtain ⟨y246, hy246⟩ : ∃ y_ : List Int, y_ = (x6_1 ++ [rd t236 x7_1]) := ⟨_, rfl⟩
         replace H : (if 0 ≤ (wrap64 (x7_1 + 1)) then (if (wrap64 (x7_1 + 1)) < (t233.length : Int) then (if 0 ≤ (wrap64 ((y242.length : Int) - 1)) then (if (wrap64 ((y242.length : Int) - 1)) < (y242.length : Int) then (galleyref22_Runs.l0 k1 (y242.set ((wrap64 ((y242.length : Int) - 1)) : Int).toNat (⟨(rd_T36 y242 (wrap64 ((y242.length : Int) - 1))).f0, rd t233 (wrap64 (x7_1 + 1))⟩ : S36)) y246 (wrap64 (x7_1 + 1)) t233 t236) else (none)) else (none)) else (none)) else (none)) = some (r1, r2) := by first | (rw [hy246]; with_reducible exact H) | (have H2_ := (Option.bind_some _ _).symm.trans H; rw [hy246]; with_reducible exact H2_) | (have H2_ := (Option.bind_some _ _).symm.trans H; with_reducible exact H2_) | with_reducible exact H | (rw [hy246]; exact H) | exact H
         have Ny246 := Aside0.mk hy246
         clear hy246
         obtain ⟨ji14, hji14⟩ : ∃ j_ : Int, (wrap64 (x7_1 + 1)) = j_ := ⟨_, rfl⟩
         replace H : (if 0 ≤ (ji14) then (if (ji14) < (t233.length : Int) then (if 0 ≤ (wrap64 ((y242.length : Int) - 1)) then (if (wrap64 ((y242.length : Int) - 1)) < (y242.length : Int) then (galleyref22_Runs.l0 k1 (y242.set ((wrap64 ((y242.length : Int) - 1)) : Int).toNat (⟨(rd_T36 y242 (wrap64 ((y242.length : Int) - 1))).f0, rd t233 (ji14)⟩ : S36)) y246 ji14 t233 t236) else (none)) else (none)) else (none)) else (none)) = some (r1, r2) := by first | (rw [hji14] at H; exact H) | (simp only [hji14] at H ⊢; exact H)
         have hji14w : (IntKind.i64.wrap (x7_1 + 1)) = ji14 := (i64_w _).trans hji14
         by_cases c15 : 0 ≤ (ji14)
         ·rw [if_pos c15] at H
          have c15b0 : decide (0 ≤ (ji14)) = true := decide_eq_true c15
          clear c15
          by_cases c16 : (ji14) < (t233.length : Int)
          ·rw [if_pos c16] at H
           have c16b0 : decide ((ji14) < (t233.length : Int)) = true := decide_eq_true c16
           clear c16
           obtain ⟨ji17, hji17⟩ : ∃ j_ : Int, (wrap64 ((y242.length : Int) - 1)) = j_ := ⟨_, rfl⟩
           replace H : (if 0 ≤ (ji17) then (if (ji17) < (y242.length : Int) then (galleyref22_Runs.l0 k1 (y242.set ((ji17) : Int).toNat (⟨(rd_T36 y242 (ji17)).f0, rd t233 (ji14)⟩ : S36)) y246 ji14 t233 t236) else (none)) else (none)) = some (r1, r2) := by first | (rw [hji17] at H; exact H) | (simp only [hji17] at H ⊢; exact H)
           have hji17w : (IntKind.i64.wrap ((y242.length : Int) - 1)) = ji17 := (i64_w _).trans hji17
           by_cases c18 : 0 ≤ (ji17)
           ·rw [if_pos c18] at H
            have c18b0 : decide (0 ≤ (ji17)) = true := decide_eq_true c18
            clear c18
            by_cases c19 : (ji17) < (y242.length : Int)
            ·rw [if_pos c19] at H
             have c19b0 : decide ((ji17) < (y242.length : Int)) = true := decide_eq_true c19
             clear c19
             obtain ⟨y250, hy250⟩ : ∃ y_ : List (S36), y_ = (y242.set ((ji17) : Int).toNat (⟨(rd_T36 y242 (ji17)).f0, rd t233 (ji14)⟩ : S36)) := ⟨_, rfl⟩
             replace H : (galleyref22_Runs.l0 k1 y250 y246 ji14 t233 t236) = some (r1, r2) := by first | (rw [hy250]; with_reducible exact H) | (have H2_ := (Option.bind_some _ _).symm.trans H; rw [hy250]; with_reducible exact H2_) | (have H2_ := (Option.bind_some _ _).symm.trans H; with_reducible exact H2_) | with_reducible exact H | (rw [hy250]; exact H) | exact H
             have Ny250 := Aside0.mk hy250
             clear hy250
             have H' := Aside0.mk H
             clear H
             have hcz21_0 : wr.cell? ⟨gb239, 0, none⟩ = some (.slice Ao5 t233.length co5) := (blk_cell BK239.out 0).trans rfl
             have hcz21_1 : wr.cell? ⟨gb239, 1, none⟩ = some (.slice Ao7 t236.length co7) := (blk_cell BK239.out 1).trans rfl
             have hfz21_0 := blk_frozen BK239.out 0
             have hfz21_1 := blk_frozen BK239.out 1
             try go_wp2
             have n0_ := Aside0.mk (Kd.R_drew HO_5.out)
             have n1_ := Aside0.mk (Kd.R_drew HO_6.out)
             have n2_ := Aside0.mk (Kd.R_drew HO_240000.out)
             have n3_ := Aside0.mk (Kd.R_drew HO_240001.out)
             have n4_ := Aside0.mk (blk_drew BK239.out)
             have n5_ := Aside0.mk (below_drew1 HB.out)
             clear HO_5 HO_6 HO_240000 HO_240001 BK239 HB
             have HO_5 := n0_
             have HO_6 := n1_
             have HO_240000 := n2_
             have HO_240001 := n3_
             have BK239 := n4_
             have HB := n5_
             clear n0_ n1_ n2_ n3_ n4_ n5_
             refine start_ (n := 16) (S := fun w' => True) (ds := []) #[false, false, false, false, false, false, false, false, false, false, false, false, false, false, false, false] (by kernel_rfl) rfl rfl trivial (fun hHeld => ?_); refine with_tabW galleyref22_Runs.tab7 galleyref22_Runs.bits7 (fun HT_ HW_ => ?_)
             generalize wr.drew = w22 at HO_5 HO_6 HO_240000 HO_240001 BK239 HB hHeld ⊢
             refine pure_ (i := 0) (N := some 17) (v := ?_) (a' := ?_) #[true, false, false, false, false, false, false, false, false, false, false, false, false, false, false, false] rfl rfl (any_of HT_.out (by kernel_rfl)) (fun _ _ _ h => h) (Or.inl ⟨by rfl, ?_⟩) ?_ ?_
             rotate_left; ·(intro w'; go_simp; with_reducible rfl)
             rotate_left; ·(simp only [Act.put, List.setIfInBounds_toArray, List.set_cons_zero, List.set_cons_succ, i64_w, i32_w]; rfl)
             refine pure_ (i := 1) (N := some 18) (v := ?_) (a' := ?_) #[true, true, false, false, false, false, false, false, false, false, false, false, false, false, false, false] rfl rfl (any_of HT_.out (by kernel_rfl)) (fun _ _ _ h => h) (Or.inl ⟨by rfl, ?_⟩) ?_ ?_
             rotate_left; ·(intro w'; go_simp; with_reducible rfl)
             rotate_left; ·(simp only [Act.put, List.setIfInBounds_toArray, List.set_cons_zero, List.set_cons_succ, i64_w, i32_w]; rfl)
             refine pure_ (i := 2) (N := some 19) (v := ?_) (a' := ?_) #[true, true, true, false, false, false, false, false, false, false, false, false, false, false, false, false] rfl rfl (any_of HT_.out (by kernel_rfl)) (fun _ _ _ h => h) (Or.inl ⟨by rfl, ?_⟩) ?_ ?_
             rotate_left; ·(intro w'; go_simp; with_reducible rfl)
             rotate_left; ·(simp only [Act.put, List.setIfInBounds_toArray, List.set_cons_zero, List.set_cons_succ, i64_w, i32_w]; rfl)
             refine pure_ (i := 3) (N := some 20) (v := undef) (a' := ?_) #[true, true, true, true, false, false, false, false, false, false, false, false, false, false, false, false] rfl rfl (any_of HT_.out (by kernel_rfl)) (fun _ _ _ h => h) (Or.inr ⟨by rfl, rfl⟩) ?_ ?_
             rotate_left; ·(simp only [Act.put, List.setIfInBounds_toArray, List.set_cons_zero, List.set_cons_succ, i64_w, i32_w]; rfl)
             refine pure_ (i := 4) (N := some 21) (v := undef) (a' := ?_) #[true, true, true, true, true, false, false, false, false, false, false, false, false, false, false, false] rfl rfl (any_of HT_.out (by kernel_rfl)) (fun _ _ _ h => h) (Or.inr ⟨by rfl, rfl⟩) ?_ ?_
             rotate_left; ·(simp only [Act.put, List.setIfInBounds_toArray, List.set_cons_zero, List.set_cons_succ, i64_w, i32_w]; rfl)
             refine pure_ (i := 5) (N := some 22) (v := undef) (a' := ?_) #[true, true, true, true, true, true, false, false, false, false, false, false, false, false, false, false] rfl rfl (any_of HT_.out (by kernel_rfl)) (fun _ _ _ h => h) (Or.inr ⟨by rfl, rfl⟩) ?_ ?_
             rotate_left; ·(simp only [Act.put, List.setIfInBounds_toArray, List.set_cons_zero, List.set_cons_succ, i64_w, i32_w]; rfl)
             refine pure_ (i := 6) (N := some 23) (v := undef) (a' := ?_) #[true, true, true, true, true, true, true, false, false, false, false, false, false, false, false, false] rfl rfl (any_of HT_.out (by kernel_rfl)) (fun _ _ _ h => h) (Or.inr ⟨by rfl, rfl⟩) ?_ ?_
             rotate_left; ·(simp only [Act.put, List.setIfInBounds_toArray, List.set_cons_zero, List.set_cons_succ, i64_w, i32_w]; rfl)
             refine pure_ (i := 7) (N := some 24) (v := undef) (a' := ?_) #[true, true, true, true, true, true, true, true, false, false, false, false, false, false, false, false] rfl rfl (any_of HT_.out (by kernel_rfl)) (fun _ _ _ h => h) (Or.inr ⟨by rfl, rfl⟩) ?_ ?_
             rotate_left; ·(simp only [Act.put, List.setIfInBounds_toArray, List.set_cons_zero, List.set_cons_succ, i64_w, i32_w]; rfl)
             refine pure_ (i := 8) (N := some 25) (v := undef) (a' := ?_) #[true, true, true, true, true, true, true, true, true, false, false, false, false, false, false, false] rfl rfl (any_of HT_.out (by kernel_rfl)) (fun _ _ _ h => h) (Or.inr ⟨by rfl, rfl⟩) ?_ ?_
             rotate_left; ·(simp only [Act.put, List.setIfInBounds_toArray, List.set_cons_zero, List.set_cons_succ, i64_w, i32_w]; rfl)
             refine pure_ (i := 9) (N := some 26) (v := undef) (a' := ?_) #[true, true, true, true, true, true, true, true, true, true, false, false, false, false, false, false] rfl rfl (any_of HT_.out (by kernel_rfl)) (fun _ _ _ h => h) (Or.inr ⟨by rfl, rfl⟩) ?_ ?_
             rotate_left; ·(simp only [Act.put, List.setIfInBounds_toArray, List.set_cons_zero, List.set_cons_succ, i64_w, i32_w]; rfl)
             refine pure_ (i := 10) (N := some 27) (v := undef) (a' := ?_) #[true, true, true, true, true, true, true, true, true, true, true, false, false, false, false, false] rfl rfl (any_of HT_.out (by kernel_rfl)) (fun _ _ _ h => h) (Or.inr ⟨by rfl, rfl⟩) ?_ ?_
             rotate_left; ·(simp only [Act.put, List.setIfInBounds_toArray, List.set_cons_zero, List.set_cons_succ, i64_w, i32_w]; rfl)
             refine pure_ (i := 11) (N := some 28) (v := undef) (a' := ?_) #[true, true, true, true, true, true, true, true, true, true, true, true, false, false, false, false] rfl rfl (any_of HT_.out (by kernel_rfl)) (fun _ _ _ h => h) (Or.inr ⟨by rfl, rfl⟩) ?_ ?_
             rotate_left; ·(simp only [Act.put, List.setIfInBounds_toArray, List.set_cons_zero, List.set_cons_succ, i64_w, i32_w]; rfl)
             refine pure_ (i := 12) (N := some 29) (v := undef) (a' := ?_) #[true, true, true, true, true, true, true, true, true, true, true, true, true, false, false, false] rfl rfl (any_of HT_.out (by kernel_rfl)) (fun _ _ _ h => h) (Or.inr ⟨by rfl, rfl⟩) ?_ ?_
             rotate_left; ·(simp only [Act.put, List.setIfInBounds_toArray, List.set_cons_zero, List.set_cons_succ, i64_w, i32_w]; rfl)
             refine pure_ (i := 13) (N := some 30) (v := undef) (a' := ?_) #[true, true, true, true, true, true, true, true, true, true, true, true, true, true, false, false] rfl rfl (any_of HT_.out (by kernel_rfl)) (fun _ _ _ h => h) (Or.inr ⟨by rfl, rfl⟩) ?_ ?_
             rotate_left; ·(simp only [Act.put, List.setIfInBounds_toArray, List.set_cons_zero, List.set_cons_succ, i64_w, i32_w]; rfl)
             refine pure_ (i := 14) (N := some 31) (v := undef) (a' := ?_) #[true, true, true, true, true, true, true, true, true, true, true, true, true, true, true, false] rfl rfl (any_of HT_.out (by kernel_rfl)) (fun _ _ _ h => h) (Or.inr ⟨by rfl, rfl⟩) ?_ ?_
             rotate_left; ·(simp only [Act.put, List.setIfInBounds_toArray, List.set_cons_zero, List.set_cons_succ, i64_w, i32_w]; rfl)
             refine pure_ (i := 15) (N := some 32) (v := ?_) (a' := ?_) #[true, true, true, true, true, true, true, true, true, true, true, true, true, true, true, true] rfl rfl (any_of HT_.out (by kernel_rfl)) (fun _ _ _ h => h) (Or.inl ⟨by rfl, ?_⟩) ?_ ?_
             rotate_left; ·(intro w'; go_simp; with_reducible rfl)
             rotate_left; ·(simp only [Act.put, List.setIfInBounds_toArray, List.set_cons_zero, List.set_cons_succ, i64_w, i32_w]; rfl)
             refine done_ (done_of HT_.out (by kernel_rfl)) ?_
             try go_wp2
             have n0_ := Aside0.mk (Kd.R_drew HO_5.out)
             have n1_ := Aside0.mk (Kd.R_drew HO_6.out)
             have n2_ := Aside0.mk (Kd.R_drew HO_240000.out)
             have n3_ := Aside0.mk (Kd.R_drew HO_240001.out)
             have n4_ := Aside0.mk (blk_drew BK239.out)
             have n5_ := Aside0.mk (below_drew1 HB.out)
             clear HO_5 HO_6 HO_240000 HO_240001 BK239 HB
             have HO_5 := n0_
             have HO_6 := n1_
             have HO_240000 := n2_
             have HO_240001 := n3_
             have BK239 := n4_
             have HB := n5_
             clear n0_ n1_ n2_ n3_ n4_ n5_
             have p240 : 0 ≤ (x7_1 : Int) := of_decide_eq_true (by first | (with_reducible assumption) | assumption)
             have q240 : x7_1 < (t233.length : Int) := of_decide_eq_true (by first | (with_reducible assumption) | assumption)
             obtain ⟨ad240, e240, hx240_0⟩ := Kd.at_int (Kd.R_reads' HO_240000.out).2.2 x7_1 p240 q240
             cases e240
             replace p240 := eq_true p240
             replace q240 := eq_true q240
             have p241 : 0 ≤ (x7_1 : Int) := of_decide_eq_true (by first | (with_reducible assumption) | assumption)
             have q241 : x7_1 < (t233.length : Int) := of_decide_eq_true (by first | (with_reducible assumption) | assumption)
             obtain ⟨ad241, e241, hx241_0⟩ := Kd.at_int (Kd.R_reads' HO_240000.out).2.2 x7_1 p241 q241
             obtain rfl : ad240 = ad241 := (by injection e241)
             replace p241 := eq_true p241
             replace q241 := eq_true q241
             refine start_ (n := 15) (S := fun w' => w'.cell? ⟨gb239, 0, none⟩ = some (.slice (some ad240) t233.length co5) ∧ w'.cell? ⟨gb239, 1, none⟩ = some (.slice Ao7 t236.length co7) ∧ w'.cell? (ad240.add (x7_1).toNat) = some (.int .i64 (rd t233 x7_1)) ∧ w'.cell? (ad240.add (x7_1).toNat) = some (.int .i64 (rd t233 x7_1))) (ds := [12, 13]) #[false, false, false, false, false, false, false, false, false, false, false, false, false, false, false] (by kernel_rfl) rfl rfl ⟨(blk_cell BK239.out 0).trans rfl, (blk_cell BK239.out 1).trans rfl, hx240_0, hx241_0⟩ (fun hHeld => ?_); refine with_tabW galleyref22_Runs.tab8 galleyref22_Runs.bits8 (fun HT_ HW_ => ?_)
             generalize w22.drew = w23 at HO_5 HO_6 HO_240000 HO_240001 BK239 HB hx240_0 hx241_0 hHeld ⊢
             refine pure_ (i := 0) (N := some 33) (v := ?_) (a' := ?_) #[true, false, false, false, false, false, false, false, false, false, false, false, false, false, false] rfl rfl (any_of HT_.out (by kernel_rfl)) (fun _ _ _ h => h) (Or.inl ⟨by rfl, ?_⟩) ?_ ?_
             rotate_left; ·(intro w'; go_simp; with_reducible rfl)
             rotate_left; ·(simp only [Act.put, List.setIfInBounds_toArray, List.set_cons_zero, List.set_cons_succ, i64_w, i32_w]; rfl)
             refine pure_ (i := 1) (N := some 34) (v := ?_) (a' := ?_) #[true, true, false, false, false, false, false, false, false, false, false, false, false, false, false] rfl rfl (any_of HT_.out (by kernel_rfl)) (fun _ _ _ h => h) (Or.inl ⟨by rfl, ?_⟩) ?_ ?_
             rotate_left; ·(intro w'; go_simp; with_reducible rfl)
             rotate_left; ·(simp only [Act.put, List.setIfInBounds_toArray, List.set_cons_zero, List.set_cons_succ, i64_w, i32_w]; rfl)
             refine pure_ (i := 3) (N := some 36) (v := ?_) (a' := ?_) #[true, true, false, true, false, false, false, false, false, false, false, false, false, false, false] rfl rfl (any_of HT_.out (by kernel_rfl)) (fun _ _ _ h => h) (Or.inl ⟨by rfl, ?_⟩) ?_ ?_
             rotate_left; ·(intro w'; go_simp; with_reducible rfl)
             rotate_left; ·(simp only [Act.put, List.setIfInBounds_toArray, List.set_cons_zero, List.set_cons_succ, i64_w, i32_w]; rfl)
             refine pure_ (i := 6) (N := some 39) (v := ?_) (a' := ?_) #[true, true, false, true, false, false, true, false, false, false, false, false, false, false, false] rfl rfl (any_of HT_.out (by kernel_rfl)) (fun _ _ _ h => h) (Or.inl ⟨by rfl, ?_⟩) ?_ ?_
             rotate_left; ·(intro w'; go_simp; with_reducible rfl)
             rotate_left; ·(simp only [Act.put, List.setIfInBounds_toArray, List.set_cons_zero, List.set_cons_succ, i64_w, i32_w]; rfl)
             refine pure_ (i := 8) (N := some 41) (v := ?_) (a' := ?_) #[true, true, false, true, false, false, true, false, true, false, false, false, false, false, false] rfl rfl (any_of HT_.out (by kernel_rfl)) (fun _ _ _ h => h) (Or.inl ⟨by rfl, ?_⟩) ?_ ?_
             rotate_left; ·(intro w'; go_simp; with_reducible rfl)
             rotate_left; ·(simp only [Act.put, List.setIfInBounds_toArray, List.set_cons_zero, List.set_cons_succ, i64_w, i32_w]; rfl)
             refine take_ (i := 2) (N := some 35) (v := ?_) (a' := ?_) #[true, true, true, true, false, false, true, false, true, false, false, false, false, false, false] rfl rfl (take_ofW HT_.out HW_.out (by kernel_rfl)) (fun _ _ _ h => h) (Or.inl ⟨by rfl, ?_⟩) hHeld ?_ ?_
             rotate_left
             ·rintro w' ⟨s0, s1, s2, s3⟩
              go_simp
              with_reducible rfl
             rotate_left; ·(simp only [Act.put, List.setIfInBounds_toArray, List.set_cons_zero, List.set_cons_succ, i64_w, i32_w]; rfl)
             refine pure_ (i := 4) (N := some 37) (v := ?_) (a' := ?_) #[true, true, true, true, true, false, true, false, true, false, false, false, false, false, false] rfl rfl (any_of HT_.out (by kernel_rfl)) (fun _ _ _ h => h) (Or.inl ⟨by rfl, ?_⟩) ?_ ?_
             rotate_left; ·(intro w'; go_simp; with_reducible rfl)
             rotate_left; ·(simp only [Act.put, List.setIfInBounds_toArray, List.set_cons_zero, List.set_cons_succ, i64_w, i32_w]; rfl)
             refine take_ (i := 5) (N := some 38) (v := ?_) (a' := ?_) #[true, true, true, true, true, true, true, false, true, false, false, false, false, false, false] rfl rfl (take_ofW HT_.out HW_.out (by kernel_rfl)) (fun _ _ _ h => h) (Or.inl ⟨by rfl, ?_⟩) hHeld ?_ ?_
             rotate_left
             ·rintro w' ⟨s0, s1, s2, s3⟩
              go_simp
              with_reducible rfl
             rotate_left; ·(simp only [Act.put, List.setIfInBounds_toArray, List.set_cons_zero, List.set_cons_succ, i64_w, i32_w]; rfl)
             refine take_ (i := 7) (N := some 40) (v := ?_) (a' := ?_) #[true, true, true, true, true, true, true, true, true, false, false, false, false, false, false] rfl rfl (take_ofW HT_.out HW_.out (by kernel_rfl)) (fun _ _ _ h => h) (Or.inl ⟨by rfl, ?_⟩) hHeld ?_ ?_
             rotate_left
             ·rintro w' ⟨s0, s1, s2, s3⟩
              go_simp
              with_reducible rfl
             rotate_left; ·(simp only [Act.put, List.setIfInBounds_toArray, List.set_cons_zero, List.set_cons_succ, i64_w, i32_w]; rfl)
             refine pure_ (i := 9) (N := some 42) (v := ?_) (a' := ?_) #[true, true, true, true, true, true, true, true, true, true, false, false, false, false, false] rfl rfl (any_of HT_.out (by kernel_rfl)) (fun _ _ _ h => h) (Or.inl ⟨by rfl, ?_⟩) ?_ ?_
             rotate_left; ·(intro w'; go_simp; with_reducible rfl)
             rotate_left; ·(simp only [Act.put, List.setIfInBounds_toArray, List.set_cons_zero, List.set_cons_succ, i64_w, i32_w]; rfl)
             refine take_ (i := 10) (N := some 43) (v := ?_) (a' := ?_) #[true, true, true, true, true, true, true, true, true, true, true, false, false, false, false] rfl rfl (take_ofW HT_.out HW_.out (by kernel_rfl)) (fun _ _ _ h => h) (Or.inl ⟨by rfl, ?_⟩) hHeld ?_ ?_
             rotate_left
             ·rintro w' ⟨s0, s1, s2, s3⟩
              go_simp
              with_reducible rfl
             rotate_left; ·(simp only [Act.put, List.setIfInBounds_toArray, List.set_cons_zero, List.set_cons_succ, i64_w, i32_w]; rfl)
             refine pure_ (i := 11) (N := some 44) (v := ?_) (a' := ?_) #[true, true, true, true, true, true, true, true, true, true, true, true, false, false, false] rfl rfl (any_of HT_.out (by kernel_rfl)) (fun _ _ _ h => h) (Or.inl ⟨by rfl, ?_⟩) ?_ ?_
             rotate_left; ·(intro w'; go_simp; with_reducible rfl)
             rotate_left; ·(simp only [Act.put, List.setIfInBounds_toArray, List.set_cons_zero, List.set_cons_succ, i64_w, i32_w]; rfl)
             refine last_ (i := 12) (N := some 45) #[true, true, true, true, true, true, true, true, true, true, true, true, true, false, false] rfl rfl (one_of HT_.out (by kernel_rfl)) (by decide) (fun K hK => ?_)
             refine value_ (w1 := ?_) (v := ?_) (by rfl) rfl ?_ ?_
             rotate_left 2
             ·go_simp
              constructor
              ·rfl
              ·rfl
             refine hK.out _ _ ?_
             clear hK K
             refine norm_ (a' := ?_) ?_ ?_
             rotate_left
             ·show Act.put _ (some 45) _ = _
              simp only [Act.put, List.setIfInBounds_toArray, List.set_cons_zero, List.set_cons_succ, i64_w, i32_w]
              rfl
             refine last_ (i := 13) (N := some 46) #[true, true, true, true, true, true, true, true, true, true, true, true, true, true, false] rfl rfl (one_of HT_.out (by kernel_rfl)) (by decide) (fun K hK => ?_)
             refine Kd.R_append_step k36 (w0 := w) w.heap.size (by rfl) (.tmp 33) (.tmp 45) 31 36 (.agg #[(.int .i64 0), (.int .i64 0)]) 16 rfl Tryd.underlying31 info36 rfl (by decide) (by omega) u5 x5_1 (⟨rd t233 x7_1, rd t233 x7_1⟩ : S36) [.int .i64 (rd t233 x7_1), .int .i64 (rd t233 x7_1)] (fun _ => True) (fun _ => False) rfl rfl ?aP (fun _ hk => hk.elim) ?aF ?aO ?aB ?aS ?aL ?_
             (case aP => exact k36_mkM _ _ _ (⟨rd t233 x7_1, rd t233 x7_1⟩ : S36))
             (case aB => exact (by repeat (first | (with_reducible first | exact HB.out | apply below_alloc | apply pw_below_drewN | apply below_drew1 | refine below_set ?_ GE239.out) | exact HB.out)))
             (case aF => exact (fun _ _ => trivial))
             (case aO => exact (by (with_reducible repeat (first | apply Kd.R_alloc | apply Kd.R_drewN | apply Kd.R_drew)); exact HO_5.out))
             (case aS => exact (below_size (by repeat (first | (with_reducible first | exact HB.out | apply below_alloc | apply pw_below_drewN | apply below_drew1 | refine below_set ?_ GE239.out) | exact HB.out))))
             (case aL => have := LMc12.out; omega)
             intro v243 w24 ho hb hg hat
             rw [← Ny242.out] at ho
             have n0_ := Aside0.mk (Kd.R_over' (by (with_reducible repeat (first | apply Kd.R_alloc | apply Kd.R_drewN | apply Kd.R_drew)); exact HO_6.out) (Kd.R_typed (by (with_reducible repeat (first | apply Kd.R_alloc | apply Kd.R_drewN | apply Kd.R_drew)); exact HO_5.out)) (by decide) hg)
             have n1_ := Aside0.mk (Kd.R_over' (by (with_reducible repeat (first | apply Kd.R_alloc | apply Kd.R_drewN | apply Kd.R_drew)); exact HO_240000.out) (Kd.R_typed (by (with_reducible repeat (first | apply Kd.R_alloc | apply Kd.R_drewN | apply Kd.R_drew)); exact HO_5.out)) (by decide) hg)
             have n2_ := Aside0.mk (Kd.R_over' (by (with_reducible repeat (first | apply Kd.R_alloc | apply Kd.R_drewN | apply Kd.R_drew)); exact HO_240001.out) (Kd.R_typed (by (with_reducible repeat (first | apply Kd.R_alloc | apply Kd.R_drewN | apply Kd.R_drew)); exact HO_5.out)) (by decide) hg)
             have n3_ := Aside0.mk (blk_grown (g := gb239) (o := .cells #[.slice (some ad240) t233.length co5, .slice Ao7 t236.length co7] 96 (0, 0)) (by (with_reducible repeat (first | refine blk_drewN ?_ _ | refine blk_drew ?_ | refine blk_alloc ?_ _)); exact BK239.out) hg (Kd.R_ne HO_5.out BK239.out (by decide)))
             have n4_ := Aside0.mk (hb)
             have n5_ := Aside0.mk (ho)
             clear HO_6 HO_240000 HO_240001 BK239 HB HO_5
             have HO_6 := n0_
             have HO_240000 := n1_
             have HO_240001 := n2_
             have BK239 := n3_
             have HB := n4_
             have HO244 := n5_
             clear n0_ n1_ n2_ n3_ n4_ n5_
             clear ho hb hg hat
             refine hK.out _ _ ?_
             clear hK K
             refine norm_ (a' := ?_) ?_ ?_
             rotate_left
             ·show Act.put _ (some 46) _ = _
              simp only [Act.put, List.setIfInBounds_toArray, List.set_cons_zero, List.set_cons_succ, i64_w, i32_w]
              rfl
             refine pure_ (i := 14) (N := some 5) (v := ?_) (a' := ?_) #[true, true, true, true, true, true, true, true, true, true, true, true, true, true, true] rfl rfl (any_of HT_.out (by kernel_rfl)) (fun _ _ _ h => h) (Or.inl ⟨by rfl, ?_⟩) ?_ ?_
             rotate_left; ·(intro w'; go_simp; with_reducible rfl)
             rotate_left; ·(simp only [Act.put, List.setIfInBounds_toArray, List.set_cons_zero, List.set_cons_succ, i64_w, i32_w]; rfl)
             refine done_ (done_of HT_.out (by kernel_rfl)) ?_
             have hcz25_0 : w24.cell? ⟨gb239, 0, none⟩ = some (.slice (some ad240) t233.length co5) := (blk_cell BK239.out 0).trans rfl
             have hcz25_1 : w24.cell? ⟨gb239, 1, none⟩ = some (.slice Ao7 t236.length co7) := (blk_cell BK239.out 1).trans rfl
             have hfz25_0 := blk_frozen BK239.out 0
             have hfz25_1 := blk_frozen BK239.out 1
             have p245 : 0 ≤ (x7_1 : Int) := of_decide_eq_true (by first | (with_reducible assumption) | assumption)
             have q245 : x7_1 < (t236.length : Int) := of_decide_eq_true (by first | (with_reducible assumption) | assumption)
             obtain ⟨ad245, e245, hx245_0⟩ := Kd.at_int (Kd.R_reads' HO_240001.out).2.2 x7_1 p245 q245
             cases e245
             replace p245 := eq_true p245
             replace q245 := eq_true q245
             try go_wp2_with (first | ((with_reducible refine gate_builtin (b := .append) (xs := #[.tmp 47, .tmp 53]) rfl ?_); at_builtin; refine Kd.R_append (Kd.int .i64) (w0 := w) w.heap.size rfl (.tmp 47) (.tmp 53) 69 3 (.int .i64 0) 8 rfl Tryd.underlying69 info3 rfl (by decide) (by omega) u6 x6_1 (rd t236 x7_1) [.int .i64 (rd t236 x7_1)] (fun k_ => some k_ ≠ (.slice (some ad240) t233.length co5 : Value).ownBlock ∧ some k_ ≠ (.slice (some ad245) t236.length co7 : Value).ownBlock) (fun _ => False) rfl rfl ?aP (fun _ hk => hk.elim) ?aF ?aO ?aB ?aS ?aL ?_; (case aP => exact rfl); (case aB => exact (by repeat (first | (with_reducible first | exact HB.out | apply below_alloc | apply pw_below_drewN | apply below_drew1 | refine below_set ?_ GE239.out) | exact HB.out))); (case aF => exact (fun k_ hk => ⟨Kd.fresh' (Kd.R_lt (by (with_reducible repeat (first | apply Kd.R_alloc | apply Kd.R_drewN | apply Kd.R_drew)); exact HO_240000.out)) k_ hk, Kd.fresh' (Kd.R_lt (by (with_reducible repeat (first | apply Kd.R_alloc | apply Kd.R_drewN | apply Kd.R_drew)); exact HO_240001.out)) k_ hk⟩)); (case aO => exact (by (with_reducible repeat (first | apply Kd.R_alloc | apply Kd.R_drewN | apply Kd.R_drew)); exact HO_6.out)); (case aS => exact (below_size (by repeat (first | (with_reducible first | exact HB.out | apply below_alloc | apply pw_below_drewN | apply below_drew1 | refine below_set ?_ GE239.out) | exact HB.out)))); (case aL => have := LMc13.out; omega); intro v247 w26 ho hb hg hat; rw [← Ny246.out] at ho; have n0_ := Aside0.mk (Kd.R_after (ok := (fun k_ => some k_ ≠ (.slice (some ad245) t236.length co7 : Value).ownBlock)) (by (with_reducible repeat (first | apply Kd.R_alloc | apply Kd.R_drewN | apply Kd.R_drew)); exact Kd.R_mono HO_240000.out (fun _ hk => ⟨hk.2, hk.1⟩)) hg hat); have n1_ := Aside0.mk (Kd.R_after (ok := (fun k_ => some k_ ≠ (.slice (some ad240) t233.length co5 : Value).ownBlock)) (by (with_reducible repeat (first | apply Kd.R_alloc | apply Kd.R_drewN | apply Kd.R_drew)); exact Kd.R_mono HO_240001.out (fun _ hk => ⟨hk.2, hk.1⟩)) hg hat); have n2_ := Aside0.mk (blk_grown (g := gb239) (o := .cells #[.slice (some ad240) t233.length co5, .slice (some ad245) t236.length co7] 96 (0, 0)) (by (with_reducible repeat (first | refine blk_drewN ?_ _ | refine blk_drew ?_ | refine blk_alloc ?_ _)); exact BK239.out) hg (Kd.R_ne HO_6.out BK239.out (by decide))); have n3_ := Aside0.mk (Kd.R_over' (by (with_reducible repeat (first | apply Kd.R_alloc | apply Kd.R_drewN | apply Kd.R_drew)); exact HO244.out) (Kd.R_typed (by (with_reducible repeat (first | apply Kd.R_alloc | apply Kd.R_drewN | apply Kd.R_drew)); exact HO_6.out)) (by decide) hg); have n4_ := Aside0.mk (hb); have n5_ := Aside0.mk (ho); clear HO_240000; clear HO_240001; clear BK239; clear HO244; clear HB; clear HO_6; have HO_240000 := n0_; have HO_240001 := n1_; have BK239 := n2_; have HO244 := n3_; have HB := n4_; have HO248 := n5_; clear n0_ n1_ n2_ n3_ n4_ n5_; clear ho hb hg hat; obtain ⟨Ao27, co27, eo27⟩ := Kd.R_slice HO244.out; subst eo27; have hcz28_0 : w26.cell? ⟨gb239, 0, none⟩ = some (.slice (some ad240) t233.length co5) := (blk_cell BK239.out 0).trans rfl; have hcz28_1 : w26.cell? ⟨gb239, 1, none⟩ = some (.slice (some ad245) t236.length co7) := (blk_cell BK239.out 1).trans rfl; have hfz28_0 := blk_frozen BK239.out 0; have hfz28_1 := blk_frozen BK239.out 1; have p249 : 0 ≤ ((ji14) : Int) := of_decide_eq_true (by first | (with_reducible assumption) | assumption); have q249 : (ji14) < (t233.length : Int) := of_decide_eq_true (by first | (with_reducible assumption) | assumption); obtain ⟨ad249, e249, hx249_0⟩ := Kd.at_int (Kd.R_reads' HO_240000.out).2.2 (ji14) p249 q249; obtain rfl : ad240 = ad249 := (by injection e249); replace p249 := eq_true p249; replace q249 := eq_true q249; have p20 : 0 ≤ ((ji17) : Int) := of_decide_eq_true (by first | (with_reducible assumption) | assumption); have q20 : ((ji17) : Int) < ((y242.length : Int) : Int) := of_decide_eq_true (by first | (with_reducible assumption) | assumption); obtain ⟨go20, co20, eo20, gb20, gl20, cl20, HG20⟩ := Kd.R_form HO244.out (by omega); (first | cases eo20 | (injection eo20 with ea_ en_ ec_; (first | subst ea_ | (injection ea_ with ea_; subst ea_)); subst ec_; clear en_)); have GB20 := Aside0.mk gb20; have GG20 := Aside0.mk HG20; clear gb20 gl20 HG20; obtain ⟨ce20, hcl20, hM20, hcc20, hfr20⟩ := Kd.R_elem HO244.out z36 ((ji17) : Int) p20 q20; obtain rfl := k36_openM hM20; have hx20_0 : w26.cell? ⟨go20, ((ji17) : Int).toNat * 2, none⟩ = some (.int .i64 ((rd_T36 y242 (ji17)).f0)) := hcc20 0 _ rfl; have hx20_1 : w26.cell? ⟨go20, ((ji17) : Int).toNat * 2 + 1, none⟩ = some (.int .i64 ((rd_T36 y242 (ji17)).f1)) := hcc20 1 _ rfl; have hf20_0 : w26.frozen? ⟨go20, ((ji17) : Int).toNat * 2, none⟩ = false := hfr20 0; have hf20_1 : w26.frozen? ⟨go20, ((ji17) : Int).toNat * 2 + 1, none⟩ = false := hfr20 1; clear hcl20 hcc20 hfr20 hM20; replace p20 := eq_true p20; replace q20 := eq_true q20; have HX29 := Aside0.mk (show Kd.R k36 36 w26 w.heap.size (fun _ => True) (.slice (some ⟨go20, 0, none⟩) y242.length co27) y242 from (by (with_reducible repeat (first | apply Kd.R_alloc | apply Kd.R_drewN | apply Kd.R_drew)); exact HO244.out)); obtain ⟨ce29, hcl29, hM29, hcc29, hfr29⟩ := Kd.R_elem HX29.out z36 ((ji17) : Int) (of_decide_eq_true (by first | (with_reducible assumption) | assumption)) (by have h_ : ((ji17) : Int) < ((y242.length : Int) : Int) := of_decide_eq_true (by first | (with_reducible assumption) | assumption); first | exact h_ | (have e_ := (Kd.R_reads' HO244.out).1; omega) | simpa using h_); obtain rfl := k36_openM hM29; have HP29 := Kd.R_seg HX29.out ((ji17) : Int) (of_decide_eq_true (by first | (with_reducible assumption) | assumption)) (by have h_ : ((ji17) : Int) < ((y242.length : Int) : Int) := of_decide_eq_true (by first | (with_reducible assumption) | assumption); first | exact h_ | (have e_ := (Kd.R_reads' HO244.out).1; omega) | simpa using h_) (seg := [.int .i64 (rd t233 (ji14))]) (j := 1) hcl29 hcc29 (show 2 ≤ 2 from by decide) (x' := (⟨(rd_T36 y242 (ji17)).f0, rd t233 (ji14)⟩ : S36)) (k36_mkM _ _ _ (⟨(rd_T36 y242 (ji17)).f0, rd t233 (ji14)⟩ : S36) ) (fun _ hk => hk); have hx29_1 := hcc29 1 _ rfl; (try simp only [show (k36).sz = 2 from rfl, Nat.mul_one, Nat.add_zero] at hx29_1); have hf29_1 := hfr29 1; (try simp only [show (k36).sz = 2 from rfl, Nat.mul_one, Nat.add_zero] at hf29_1); clear hcl29 hcc29 hfr29 hM29) | ((with_reducible refine gate_store (t := 3) (p := 66) rfl ?_); refine store_event (t := 3) (p := 66) (v := ?vo_w30) (w1 := (w26.setCell ⟨go20, ((ji17) : Int).toNat * 2 + 1, none⟩ (.int .i64 (rd t233 (ji14))))) ?hg ?ho ?hn ?hr ?_; (case ho => rfl); (case hg => rfl); (case hn => rfl); (case hr => first | (go_simp; done) | (go_simp; rfl)); intro w30 hw; have hg : w26.grownBy w30 (some go20) := (by rw [hw]; exact HP29.2); have hp_ : Kd.R k36 36 w30 w.heap.size (fun _ => True) (.slice (some ⟨go20, 0, none⟩) y242.length co27) y250 := (by rw [hw, Ny250.out]; exact HP29.1); clear HP29; have n0_ := Aside0.mk (Kd.R_over' (v := (.slice (some ⟨go20, 0, none⟩) y242.length co27)) (by (with_reducible repeat (first | apply Kd.R_alloc | apply Kd.R_drewN | apply Kd.R_drew)); exact HO_240000.out) (Kd.R_typed HO244.out) (by decide) hg); have n1_ := Aside0.mk (Kd.R_over' (v := (.slice (some ⟨go20, 0, none⟩) y242.length co27)) (by (with_reducible repeat (first | apply Kd.R_alloc | apply Kd.R_drewN | apply Kd.R_drew)); exact HO_240001.out) (Kd.R_typed HO244.out) (by decide) hg); have n2_ := Aside0.mk (blk_grown (g := gb239) (o := .cells #[.slice (some ad240) t233.length co5, .slice (some ad245) t236.length co7] 96 (0, 0)) (by (with_reducible repeat (first | refine blk_drewN ?_ _ | refine blk_drew ?_ | refine blk_alloc ?_ _)); exact BK239.out) hg (Kd.R_ne HO244.out BK239.out (by decide))); have n3_ := Aside0.mk (hp_); have n4_ := Aside0.mk (Kd.R_over' (v := (.slice (some ⟨go20, 0, none⟩) y242.length co27)) (by (with_reducible repeat (first | apply Kd.R_alloc | apply Kd.R_drewN | apply Kd.R_drew)); exact HO248.out) (Kd.R_typed HO244.out) (by decide) hg); have n5_ := Aside0.mk ((by rw [hw]; exact below_set (HB.out) GB20.out : Below w.heap.size w w30)); clear HO_240000; clear HO_240001; clear BK239; clear HO244; clear HO248; clear HB; have HO_240000 := n0_; have HO_240001 := n1_; have BK239 := n2_; have HO244 := n3_; have HO248 := n4_; have HB := n5_; clear n0_ n1_ n2_ n3_ n4_ n5_; clear hg hw hp_))
             go_roundg k1
             case measure => have := HK1.out; omega
             case rel => exact ⟨(y250), (y246), (ji14), (by first | rfl | (simp; done) | (simp only [← hji14] <;> (first | rfl | simp)) | (simp [*]; done)), H', ⟨by have := HK1.out; omega⟩, ⟨by (with_reducible repeat (first | apply Kd.R_alloc | apply Kd.R_drewN | apply Kd.R_drew)); exact HO244.out⟩, ⟨by (with_reducible repeat (first | apply Kd.R_alloc | apply Kd.R_drewN | apply Kd.R_drew)); exact HO248.out⟩, ⟨by (with_reducible repeat (first | apply Kd.R_alloc | apply Kd.R_drewN | apply Kd.R_drew)); exact Kd.R_mono HO_240000.out (fun _ hk => ⟨hk.2, hk.1⟩)⟩, ⟨by (with_reducible repeat (first | apply Kd.R_alloc | apply Kd.R_drewN | apply Kd.R_drew)); exact Kd.R_mono HO_240001.out (fun _ hk => ⟨hk.2, hk.1⟩)⟩, ⟨by (with_reducible repeat (first | refine blk_drewN ?_ _ | refine blk_drew ?_ | refine blk_alloc ?_ _)); exact BK239.out⟩, ⟨by repeat (first | (with_reducible first | exact HB.out | apply below_alloc | apply pw_below_drewN | apply below_drew1 | refine below_set ?_ GE239.out) | exact HB.out)⟩⟩
            ·rw [if_neg c19] at H
             exact absurd H (by simp)
           ·rw [if_neg c18] at H
            exact absurd H (by simp)
          ·rw [if_neg c16] at H
           exact absurd H (by simp)
         ·rw [if_neg c15] at H
          exact absurd H (by simp)
        ·rw [if_neg c13] at H
         exact absurd H (by simp)
       ·rw [if_neg c12] at H
        exact absurd H (by simp)
      ·rw [if_neg c11] at H
       exact absurd H (by simp)
     ·rw [if_neg c10] at H
      exact absurd H (by simp)
    ·rw [if_neg c9] at H
     have c9b0 : (x7_1 == 0) = false := beq_eq_false_iff_ne.mpr c9
     have c9b1 : (x7_1 != 0) = true := bne_iff_ne.mpr c9
     by_cases c31 : 0 ≤ x7_1
     ·rw [if_pos c31] at H
      have c31b0 : decide (0 ≤ x7_1) = true := decide_eq_true c31
      clear c31
      obtain ⟨ji32, hji32⟩ : ∃ j_ : Int, (wrap64 (x7_1 - 1)) = j_ := ⟨_, rfl⟩
      replace H : (if 0 ≤ (ji32) then (if (ji32) < (t236.length : Int) then (if (rd t236 x7_1) = (rd t236 (ji32)) then (if 0 ≤ (wrap64 (x7_1 + 1)) then (if (wrap64 (x7_1 + 1)) < (t233.length : Int) then (if 0 ≤ (wrap64 ((x5_1.length : Int) - 1)) then (if (wrap64 ((x5_1.length : Int) - 1)) < (x5_1.length : Int) then (galleyref22_Runs.l0 k1 (x5_1.set ((wrap64 ((x5_1.length : Int) - 1)) : Int).toNat (⟨(rd_T36 x5_1 (wrap64 ((x5_1.length : Int) - 1))).f0, rd t233 (wrap64 (x7_1 + 1))⟩ : S36)) x6_1 (wrap64 (x7_1 + 1)) t233 t236) else (none)) else (none)) else (none)) else (none)) else (if x7_1 < (t233.length : Int) then (if x5_1.length < 8796093022208 then ((some (x5_1 ++ [(⟨rd t233 x7_1, rd t233 x7_1⟩ : S36)] : List (S36))).bind fun y257 => (if x6_1.length < 17592186044416 then (if 0 ≤ (wrap64 (x7_1 + 1)) then (if (wrap64 (x7_1 + 1)) < (t233.length : Int) then (if 0 ≤ (wrap64 ((y257.length : Int) - 1)) then (if (wrap64 ((y257.length : Int) - 1)) < (y257.length : Int) then (galleyref22_Runs.l0 k1 (y257.set ((wrap64 ((y257.length : Int) - 1)) : Int).toNat (⟨(rd_T36 y257 (wrap64 ((y257.length : Int) - 1))).f0, rd t233 (wrap64 (x7_1 + 1))⟩ : S36)) (x6_1 ++ [rd t236 x7_1]) (wrap64 (x7_1 + 1)) t233 t236) else (none)) else (none)) else (none)) else (none)) else (none))) else (none)) else (none))) else (none)) else (none)) = some (r1, r2) := by first | (rw [hji32] at H; exact H) | (simp only [hji32] at H ⊢; exact H)
      have hji32w : (IntKind.i64.wrap (x7_1 - 1)) = ji32 := (i64_w _).trans hji32
      by_cases c33 : 0 ≤ (ji32)
      ·rw [if_pos c33] at H
       have c33b0 : decide (0 ≤ (ji32)) = true := decide_eq_true c33
       clear c33
       by_cases c34 : (ji32) < (t236.length : Int)
       ·rw [if_pos c34] at H
        have c34b0 : decide ((ji32) < (t236.length : Int)) = true := decide_eq_true c34
        clear c34
        by_cases c35 : (rd t236 x7_1) = (rd t236 (ji32))
        ·rw [if_pos c35] at H
         have c35b0 : ((rd t236 x7_1) == (rd t236 (ji32))) = true := beq_iff_eq.mpr c35
         have c35b1 : ((rd t236 x7_1) != (rd t236 (ji32))) = false := bne_eq_false_iff_eq.mpr c35
         clear c35
         obtain ⟨ji36, hji36⟩ : ∃ j_ : Int, (wrap64 (x7_1 + 1)) = j_ := ⟨_, rfl⟩
         replace H : (if 0 ≤ (ji36) then (if (ji36) < (t233.length : Int) then (if 0 ≤ (wrap64 ((x5_1.length : Int) - 1)) then (if (wrap64 ((x5_1.length : Int) - 1)) < (x5_1.length : Int) then (galleyref22_Runs.l0 k1 (x5_1.set ((wrap64 ((x5_1.length : Int) - 1)) : Int).toNat (⟨(rd_T36 x5_1 (wrap64 ((x5_1.length : Int) - 1))).f0, rd t233 (ji36)⟩ : S36)) x6_1 ji36 t233 t236) else (none)) else (none)) else (none)) else (none)) = some (r1, r2) := by first | (rw [hji36] at H; exact H) | (simp only [hji36] at H ⊢; exact H)
         have hji36w : (IntKind.i64.wrap (x7_1 + 1)) = ji36 := (i64_w _).trans hji36
         by_cases c37 : 0 ≤ (ji36)
         ·rw [if_pos c37] at H
          have c37b0 : decide (0 ≤ (ji36)) = true := decide_eq_true c37
          clear c37
          by_cases c38 : (ji36) < (t233.length : Int)
          ·rw [if_pos c38] at H
           have c38b0 : decide ((ji36) < (t233.length : Int)) = true := decide_eq_true c38
           clear c38
           obtain ⟨ji39, hji39⟩ : ∃ j_ : Int, (wrap64 ((x5_1.length : Int) - 1)) = j_ := ⟨_, rfl⟩
           replace H : (if 0 ≤ (ji39) then (if (ji39) < (x5_1.length : Int) then (galleyref22_Runs.l0 k1 (x5_1.set ((ji39) : Int).toNat (⟨(rd_T36 x5_1 (ji39)).f0, rd t233 (ji36)⟩ : S36)) x6_1 ji36 t233 t236) else (none)) else (none)) = some (r1, r2) := by first | (rw [hji39] at H; exact H) | (simp only [hji39] at H ⊢; exact H)
           have hji39w : (IntKind.i64.wrap ((x5_1.length : Int) - 1)) = ji39 := (i64_w _).trans hji39
           by_cases c40 : 0 ≤ (ji39)
           ·rw [if_pos c40] at H
            have c40b0 : decide (0 ≤ (ji39)) = true := decide_eq_true c40
            clear c40
            by_cases c41 : (ji39) < (x5_1.length : Int)
            ·rw [if_pos c41] at H
             have c41b0 : decide ((ji39) < (x5_1.length : Int)) = true := decide_eq_true c41
             clear c41
             obtain ⟨y254, hy254⟩ : ∃ y_ : List (S36), y_ = (x5_1.set ((ji39) : Int).toNat (⟨(rd_T36 x5_1 (ji39)).f0, rd t233 (ji36)⟩ : S36)) := ⟨_, rfl⟩
             replace H : (galleyref22_Runs.l0 k1 y254 x6_1 ji36 t233 t236) = some (r1, r2) := by first | (rw [hy254]; with_reducible exact H) | (have H2_ := (Option.bind_some _ _).symm.trans H; rw [hy254]; with_reducible exact H2_) | (have H2_ := (Option.bind_some _ _).symm.trans H; with_reducible exact H2_) | with_reducible exact H | (rw [hy254]; exact H) | exact H
             have Ny254 := Aside0.mk hy254
             clear hy254
             have H' := Aside0.mk H
             clear H
             have hcz43_0 : wr.cell? ⟨gb239, 0, none⟩ = some (.slice Ao5 t233.length co5) := (blk_cell BK239.out 0).trans rfl
             have hcz43_1 : wr.cell? ⟨gb239, 1, none⟩ = some (.slice Ao7 t236.length co7) := (blk_cell BK239.out 1).trans rfl
             have hfz43_0 := blk_frozen BK239.out 0
             have hfz43_1 := blk_frozen BK239.out 1
             try go_wp2
             have n0_ := Aside0.mk (Kd.R_drew HO_5.out)
             have n1_ := Aside0.mk (Kd.R_drew HO_6.out)
             have n2_ := Aside0.mk (Kd.R_drew HO_240000.out)
             have n3_ := Aside0.mk (Kd.R_drew HO_240001.out)
             have n4_ := Aside0.mk (blk_drew BK239.out)
             have n5_ := Aside0.mk (below_drew1 HB.out)
             clear HO_5 HO_6 HO_240000 HO_240001 BK239 HB
             have HO_5 := n0_
             have HO_6 := n1_
             have HO_240000 := n2_
             have HO_240001 := n3_
             have BK239 := n4_
             have HB := n5_
             clear n0_ n1_ n2_ n3_ n4_ n5_
             have p251 : 0 ≤ (x7_1 : Int) := of_decide_eq_true (by first | (with_reducible assumption) | assumption)
             have q251 : x7_1 < (t236.length : Int) := of_decide_eq_true (by first | (with_reducible assumption) | assumption)
             obtain ⟨ad251, e251, hx251_0⟩ := Kd.at_int (Kd.R_reads' HO_240001.out).2.2 x7_1 p251 q251
             cases e251
             replace p251 := eq_true p251
             replace q251 := eq_true q251
             have p252 : 0 ≤ ((ji32) : Int) := of_decide_eq_true (by first | (with_reducible assumption) | assumption)
             have q252 : (ji32) < (t236.length : Int) := of_decide_eq_true (by first | (with_reducible assumption) | assumption)
             obtain ⟨ad252, e252, hx252_0⟩ := Kd.at_int (Kd.R_reads' HO_240001.out).2.2 (ji32) p252 q252
             obtain rfl : ad251 = ad252 := (by injection e252)
             replace p252 := eq_true p252
             replace q252 := eq_true q252
             refine start_ (n := 16) (S := fun w' => w'.cell? ⟨gb239, 0, none⟩ = some (.slice Ao5 t233.length co5) ∧ w'.cell? ⟨gb239, 1, none⟩ = some (.slice (some ad251) t236.length co7) ∧ w'.cell? (ad251.add (x7_1).toNat) = some (.int .i64 (rd t236 x7_1)) ∧ w'.cell? (ad251.add ((ji32)).toNat) = some (.int .i64 (rd t236 (ji32)))) (ds := []) #[false, false, false, false, false, false, false, false, false, false, false, false, false, false, false, false] (by kernel_rfl) rfl rfl ⟨(blk_cell BK239.out 0).trans rfl, (blk_cell BK239.out 1).trans rfl, hx251_0, hx252_0⟩ (fun hHeld => ?_); refine with_tabW galleyref22_Runs.tab7 galleyref22_Runs.bits7 (fun HT_ HW_ => ?_)
             generalize wr.drew = w44 at HO_5 HO_6 HO_240000 HO_240001 BK239 HB hx251_0 hx252_0 hHeld ⊢
             refine pure_ (i := 0) (N := some 17) (v := ?_) (a' := ?_) #[true, false, false, false, false, false, false, false, false, false, false, false, false, false, false, false] rfl rfl (any_of HT_.out (by kernel_rfl)) (fun _ _ _ h => h) (Or.inl ⟨by rfl, ?_⟩) ?_ ?_
             rotate_left; ·(intro w'; go_simp; with_reducible rfl)
             rotate_left; ·(simp only [Act.put, List.setIfInBounds_toArray, List.set_cons_zero, List.set_cons_succ, i64_w, i32_w]; rfl)
             refine pure_ (i := 1) (N := some 18) (v := ?_) (a' := ?_) #[true, true, false, false, false, false, false, false, false, false, false, false, false, false, false, false] rfl rfl (any_of HT_.out (by kernel_rfl)) (fun _ _ _ h => h) (Or.inl ⟨by rfl, ?_⟩) ?_ ?_
             rotate_left; ·(intro w'; go_simp; with_reducible rfl)
             rotate_left; ·(simp only [Act.put, List.setIfInBounds_toArray, List.set_cons_zero, List.set_cons_succ, i64_w, i32_w]; rfl)
             refine pure_ (i := 2) (N := some 19) (v := ?_) (a' := ?_) #[true, true, true, false, false, false, false, false, false, false, false, false, false, false, false, false] rfl rfl (any_of HT_.out (by kernel_rfl)) (fun _ _ _ h => h) (Or.inl ⟨by rfl, ?_⟩) ?_ ?_
             rotate_left; ·(intro w'; go_simp; with_reducible rfl)
             rotate_left; ·(simp only [Act.put, List.setIfInBounds_toArray, List.set_cons_zero, List.set_cons_succ, i64_w, i32_w]; rfl)
             refine pure_ (i := 3) (N := some 20) (v := ?_) (a' := ?_) #[true, true, true, true, false, false, false, false, false, false, false, false, false, false, false, false] rfl rfl (any_of HT_.out (by kernel_rfl)) (fun _ _ _ h => h) (Or.inl ⟨by rfl, ?_⟩) ?_ ?_
             rotate_left; ·(intro w'; go_simp; with_reducible rfl)
             rotate_left; ·(simp only [Act.put, List.setIfInBounds_toArray, List.set_cons_zero, List.set_cons_succ, i64_w, i32_w]; rfl)
             refine pure_ (i := 5) (N := some 22) (v := ?_) (a' := ?_) #[true, true, true, true, false, true, false, false, false, false, false, false, false, false, false, false] rfl rfl (any_of HT_.out (by kernel_rfl)) (fun _ _ _ h => h) (Or.inl ⟨by rfl, ?_⟩) ?_ ?_
             rotate_left; ·(intro w'; go_simp; with_reducible rfl)
             rotate_left; ·(simp only [Act.put, List.setIfInBounds_toArray, List.set_cons_zero, List.set_cons_succ, i64_w, i32_w]; rfl)
             refine pure_ (i := 8) (N := some 25) (v := ?_) (a' := ?_) #[true, true, true, true, false, true, false, false, true, false, false, false, false, false, false, false] rfl rfl (any_of HT_.out (by kernel_rfl)) (fun _ _ _ h => h) (Or.inl ⟨by rfl, ?_⟩) ?_ ?_
             rotate_left; ·(intro w'; go_simp; with_reducible rfl)
             rotate_left; ·(simp only [Act.put, List.setIfInBounds_toArray, List.set_cons_zero, List.set_cons_succ, i64_w, i32_w]; rfl)
             refine pure_ (i := 10) (N := some 27) (v := ?_) (a' := ?_) #[true, true, true, true, false, true, false, false, true, false, true, false, false, false, false, false] rfl rfl (any_of HT_.out (by kernel_rfl)) (fun _ _ _ h => h) (Or.inl ⟨by rfl, ?_⟩) ?_ ?_
             rotate_left; ·(intro w'; go_simp; with_reducible rfl)
             rotate_left; ·(simp only [Act.put, List.setIfInBounds_toArray, List.set_cons_zero, List.set_cons_succ, i64_w, i32_w]; rfl)
             refine pure_ (i := 11) (N := some 28) (v := ?_) (a' := ?_) #[true, true, true, true, false, true, false, false, true, false, true, true, false, false, false, false] rfl rfl (any_of HT_.out (by kernel_rfl)) (fun _ _ _ h => h) (Or.inl ⟨by rfl, ?_⟩) ?_ ?_
             rotate_left; ·(intro w'; go_simp; with_reducible rfl)
             rotate_left; ·(simp only [Act.put, List.setIfInBounds_toArray, List.set_cons_zero, List.set_cons_succ, i64_w, i32_w]; rfl)
             refine take_ (i := 4) (N := some 21) (v := ?_) (a' := ?_) #[true, true, true, true, true, true, false, false, true, false, true, true, false, false, false, false] rfl rfl (take_ofW HT_.out HW_.out (by kernel_rfl)) (fun _ _ _ h => h) (Or.inl ⟨by rfl, ?_⟩) hHeld ?_ ?_
             rotate_left
             ·rintro w' ⟨s0, s1, s2, s3⟩
              go_simp
              with_reducible rfl
             rotate_left; ·(simp only [Act.put, List.setIfInBounds_toArray, List.set_cons_zero, List.set_cons_succ, i64_w, i32_w]; rfl)
             refine pure_ (i := 6) (N := some 23) (v := ?_) (a' := ?_) #[true, true, true, true, true, true, true, false, true, false, true, true, false, false, false, false] rfl rfl (any_of HT_.out (by kernel_rfl)) (fun _ _ _ h => h) (Or.inl ⟨by rfl, ?_⟩) ?_ ?_
             rotate_left; ·(intro w'; go_simp; with_reducible rfl)
             rotate_left; ·(simp only [Act.put, List.setIfInBounds_toArray, List.set_cons_zero, List.set_cons_succ, i64_w, i32_w]; rfl)
             refine take_ (i := 7) (N := some 24) (v := ?_) (a' := ?_) #[true, true, true, true, true, true, true, true, true, false, true, true, false, false, false, false] rfl rfl (take_ofW HT_.out HW_.out (by kernel_rfl)) (fun _ _ _ h => h) (Or.inl ⟨by rfl, ?_⟩) hHeld ?_ ?_
             rotate_left
             ·rintro w' ⟨s0, s1, s2, s3⟩
              go_simp
              with_reducible rfl
             rotate_left; ·(simp only [Act.put, List.setIfInBounds_toArray, List.set_cons_zero, List.set_cons_succ, i64_w, i32_w]; rfl)
             refine take_ (i := 9) (N := some 26) (v := ?_) (a' := ?_) #[true, true, true, true, true, true, true, true, true, true, true, true, false, false, false, false] rfl rfl (take_ofW HT_.out HW_.out (by kernel_rfl)) (fun _ _ _ h => h) (Or.inl ⟨by rfl, ?_⟩) hHeld ?_ ?_
             rotate_left
             ·rintro w' ⟨s0, s1, s2, s3⟩
              go_simp
              with_reducible rfl
             rotate_left; ·(simp only [Act.put, List.setIfInBounds_toArray, List.set_cons_zero, List.set_cons_succ, i64_w, i32_w]; rfl)
             refine pure_ (i := 12) (N := some 29) (v := ?_) (a' := ?_) #[true, true, true, true, true, true, true, true, true, true, true, true, true, false, false, false] rfl rfl (any_of HT_.out (by kernel_rfl)) (fun _ _ _ h => h) (Or.inl ⟨by rfl, ?_⟩) ?_ ?_
             rotate_left; ·(intro w'; go_simp; with_reducible rfl)
             rotate_left; ·(simp only [Act.put, List.setIfInBounds_toArray, List.set_cons_zero, List.set_cons_succ, i64_w, i32_w]; rfl)
             refine take_ (i := 13) (N := some 30) (v := ?_) (a' := ?_) #[true, true, true, true, true, true, true, true, true, true, true, true, true, true, false, false] rfl rfl (take_ofW HT_.out HW_.out (by kernel_rfl)) (fun _ _ _ h => h) (Or.inl ⟨by rfl, ?_⟩) hHeld ?_ ?_
             rotate_left
             ·rintro w' ⟨s0, s1, s2, s3⟩
              go_simp
              with_reducible rfl
             rotate_left; ·(simp only [Act.put, List.setIfInBounds_toArray, List.set_cons_zero, List.set_cons_succ, i64_w, i32_w]; rfl)
             refine pure_ (i := 14) (N := some 31) (v := ?_) (a' := ?_) #[true, true, true, true, true, true, true, true, true, true, true, true, true, true, true, false] rfl rfl (any_of HT_.out (by kernel_rfl)) (fun _ _ _ h => h) (Or.inl ⟨by rfl, ?_⟩) ?_ ?_
             rotate_left; ·(intro w'; go_simp; with_reducible rfl)
             rotate_left; ·(simp only [Act.put, List.setIfInBounds_toArray, List.set_cons_zero, List.set_cons_succ, i64_w, i32_w]; rfl)
             refine pure_ (i := 15) (N := some 32) (v := ?_) (a' := ?_) #[true, true, true, true, true, true, true, true, true, true, true, true, true, true, true, true] rfl rfl (any_of HT_.out (by kernel_rfl)) (fun _ _ _ h => h) (Or.inl ⟨by rfl, ?_⟩) ?_ ?_
             rotate_left; ·(intro w'; go_simp; with_reducible rfl)
             rotate_left; ·(simp only [Act.put, List.setIfInBounds_toArray, List.set_cons_zero, List.set_cons_succ, i64_w, i32_w]; rfl)
             refine done_ (done_of HT_.out (by kernel_rfl)) ?_
             obtain ⟨Ao45, co45, eo45⟩ := Kd.R_slice HO_5.out
             subst eo45
             have hcz46_0 : w44.cell? ⟨gb239, 0, none⟩ = some (.slice Ao5 t233.length co5) := (blk_cell BK239.out 0).trans rfl
             have hcz46_1 : w44.cell? ⟨gb239, 1, none⟩ = some (.slice (some ad251) t236.length co7) := (blk_cell BK239.out 1).trans rfl
             have hfz46_0 := blk_frozen BK239.out 0
             have hfz46_1 := blk_frozen BK239.out 1
             have p253 : 0 ≤ ((ji36) : Int) := of_decide_eq_true (by first | (with_reducible assumption) | assumption)
             have q253 : (ji36) < (t233.length : Int) := of_decide_eq_true (by first | (with_reducible assumption) | assumption)
             obtain ⟨ad253, e253, hx253_0⟩ := Kd.at_int (Kd.R_reads' HO_240000.out).2.2 (ji36) p253 q253
             cases e253
             replace p253 := eq_true p253
             replace q253 := eq_true q253
             have p42 : 0 ≤ ((ji39) : Int) := of_decide_eq_true (by first | (with_reducible assumption) | assumption)
             have q42 : ((ji39) : Int) < ((x5_1.length : Int) : Int) := of_decide_eq_true (by first | (with_reducible assumption) | assumption)
             obtain ⟨go42, co42, eo42, gb42, gl42, cl42, HG42⟩ := Kd.R_form HO_5.out (by omega)
             (first | cases eo42 | (injection eo42 with ea_ en_ ec_; (first | subst ea_ | (injection ea_ with ea_; subst ea_)); subst ec_; clear en_))
             have GB42 := Aside0.mk gb42
             have GG42 := Aside0.mk HG42
             clear gb42 gl42 HG42
             obtain ⟨ce42, hcl42, hM42, hcc42, hfr42⟩ := Kd.R_elem HO_5.out z36 ((ji39) : Int) p42 q42
             obtain rfl := k36_openM hM42
             have hx42_0 : w44.cell? ⟨go42, ((ji39) : Int).toNat * 2, none⟩ = some (.int .i64 ((rd_T36 x5_1 (ji39)).f0)) := hcc42 0 _ rfl
             have hx42_1 : w44.cell? ⟨go42, ((ji39) : Int).toNat * 2 + 1, none⟩ = some (.int .i64 ((rd_T36 x5_1 (ji39)).f1)) := hcc42 1 _ rfl
             have hf42_0 : w44.frozen? ⟨go42, ((ji39) : Int).toNat * 2, none⟩ = false := hfr42 0
             have hf42_1 : w44.frozen? ⟨go42, ((ji39) : Int).toNat * 2 + 1, none⟩ = false := hfr42 1
             clear hcl42 hcc42 hfr42 hM42
             replace p42 := eq_true p42
             replace q42 := eq_true q42
             have HX47 := Aside0.mk (show Kd.R k36 36 w44 w.heap.size (fun _ => True) (.slice (some ⟨go42, 0, none⟩) x5_1.length co45) x5_1 from (by (with_reducible repeat (first | apply Kd.R_alloc | apply Kd.R_drewN | apply Kd.R_drew)); exact HO_5.out))
             obtain ⟨ce47, hcl47, hM47, hcc47, hfr47⟩ := Kd.R_elem HX47.out z36 ((ji39) : Int) (of_decide_eq_true (by first | (with_reducible assumption) | assumption)) (by have h_ : ((ji39) : Int) < ((x5_1.length : Int) : Int) := of_decide_eq_true (by first | (with_reducible assumption) | assumption); first | exact h_ | (have e_ := (Kd.R_reads' HO_5.out).1; omega) | simpa using h_)
             obtain rfl := k36_openM hM47
             have HP47 := Kd.R_seg HX47.out ((ji39) : Int) (of_decide_eq_true (by first | (with_reducible assumption) | assumption)) (by have h_ : ((ji39) : Int) < ((x5_1.length : Int) : Int) := of_decide_eq_true (by first | (with_reducible assumption) | assumption); first | exact h_ | (have e_ := (Kd.R_reads' HO_5.out).1; omega) | simpa using h_) (seg := [.int .i64 (rd t233 (ji36))]) (j := 1) hcl47 hcc47 (show 2 ≤ 2 from by decide) (x' := (⟨(rd_T36 x5_1 (ji39)).f0, rd t233 (ji36)⟩ : S36)) (k36_mkM _ _ _ (⟨(rd_T36 x5_1 (ji39)).f0, rd t233 (ji36)⟩ : S36) ) (fun _ hk => hk)
             have hx47_1 := hcc47 1 _ rfl
             (try simp only [show (k36).sz = 2 from rfl, Nat.mul_one, Nat.add_zero] at hx47_1)
             have hf47_1 := hfr47 1
             (try simp only [show (k36).sz = 2 from rfl, Nat.mul_one, Nat.add_zero] at hf47_1)
             clear hcl47 hcc47 hfr47 hM47
             try go_wp2_with (first | ((with_reducible refine gate_store (t := 3) (p := 66) rfl ?_); refine store_event (t := 3) (p := 66) (v := ?vo_w48) (w1 := (w44.setCell ⟨go42, ((ji39) : Int).toNat * 2 + 1, none⟩ (.int .i64 (rd t233 (ji36))))) ?hg ?ho ?hn ?hr ?_; (case ho => rfl); (case hg => rfl); (case hn => rfl); (case hr => first | (go_simp; done) | (go_simp; rfl)); intro w48 hw; have hg : w44.grownBy w48 (some go42) := (by rw [hw]; exact HP47.2); have hp_ : Kd.R k36 36 w48 w.heap.size (fun _ => True) (.slice (some ⟨go42, 0, none⟩) x5_1.length co45) y254 := (by rw [hw, Ny254.out]; exact HP47.1); clear HP47; have n0_ := Aside0.mk (hp_); have n1_ := Aside0.mk (Kd.R_over' (v := (.slice (some ⟨go42, 0, none⟩) x5_1.length co45)) (by (with_reducible repeat (first | apply Kd.R_alloc | apply Kd.R_drewN | apply Kd.R_drew)); exact HO_6.out) (Kd.R_typed HO_5.out) (by decide) hg); have n2_ := Aside0.mk (Kd.R_over' (v := (.slice (some ⟨go42, 0, none⟩) x5_1.length co45)) (by (with_reducible repeat (first | apply Kd.R_alloc | apply Kd.R_drewN | apply Kd.R_drew)); exact HO_240000.out) (Kd.R_typed HO_5.out) (by decide) hg); have n3_ := Aside0.mk (Kd.R_over' (v := (.slice (some ⟨go42, 0, none⟩) x5_1.length co45)) (by (with_reducible repeat (first | apply Kd.R_alloc | apply Kd.R_drewN | apply Kd.R_drew)); exact HO_240001.out) (Kd.R_typed HO_5.out) (by decide) hg); have n4_ := Aside0.mk (blk_grown (g := gb239) (o := .cells #[.slice (some ad253) t233.length co5, .slice (some ad251) t236.length co7] 96 (0, 0)) (by (with_reducible repeat (first | refine blk_drewN ?_ _ | refine blk_drew ?_ | refine blk_alloc ?_ _)); exact BK239.out) hg (Kd.R_ne HO_5.out BK239.out (by decide))); have n5_ := Aside0.mk ((by rw [hw]; exact below_set (HB.out) GB42.out : Below w.heap.size w w48)); clear HO_5; clear HO_6; clear HO_240000; clear HO_240001; clear BK239; clear HB; have HO_5 := n0_; have HO_6 := n1_; have HO_240000 := n2_; have HO_240001 := n3_; have BK239 := n4_; have HB := n5_; clear n0_ n1_ n2_ n3_ n4_ n5_; clear hg hw hp_))
             go_roundg k1
             case measure => have := HK1.out; omega
             case rel => exact ⟨(y254), (x6_1), (ji36), (by first | rfl | (simp; done) | (simp only [← hji36] <;> (first | rfl | simp)) | (simp [*]; done)), H', ⟨by have := HK1.out; omega⟩, ⟨by (with_reducible repeat (first | apply Kd.R_alloc | apply Kd.R_drewN | apply Kd.R_drew)); exact HO_5.out⟩, ⟨by (with_reducible repeat (first | apply Kd.R_alloc | apply Kd.R_drewN | apply Kd.R_drew)); exact HO_6.out⟩, ⟨by (with_reducible repeat (first | apply Kd.R_alloc | apply Kd.R_drewN | apply Kd.R_drew)); exact HO_240000.out⟩, ⟨by (with_reducible repeat (first | apply Kd.R_alloc | apply Kd.R_drewN | apply Kd.R_drew)); exact HO_240001.out⟩, ⟨by (with_reducible repeat (first | refine blk_drewN ?_ _ | refine blk_drew ?_ | refine blk_alloc ?_ _)); exact BK239.out⟩, ⟨by repeat (first | (with_reducible first | exact HB.out | apply below_alloc | apply pw_below_drewN | apply below_drew1 | refine below_set ?_ GE239.out) | exact HB.out)⟩⟩
            ·rw [if_neg c41] at H
             exact absurd H (by simp)
           ·rw [if_neg c40] at H
            exact absurd H (by simp)
          ·rw [if_neg c38] at H
           exact absurd H (by simp)
         ·rw [if_neg c37] at H
          exact absurd H (by simp)
        ·rw [if_neg c35] at H
         have c35b0 : ((rd t236 x7_1) == (rd t236 (ji32))) = false := beq_eq_false_iff_ne.mpr c35
         have c35b1 : ((rd t236 x7_1) != (rd t236 (ji32))) = true := bne_iff_ne.mpr c35
         by_cases c49 : x7_1 < (t233.length : Int)
         ·rw [if_pos c49] at H
          have c49b0 : decide (x7_1 < (t233.length : Int)) = true := decide_eq_true c49
          clear c49
          by_cases c50 : x5_1.length < 8796093022208
          ·rw [if_pos c50] at H
           have LMc50 := Aside0.mk c50
           clear c50
           obtain ⟨y257, hy257⟩ : ∃ y_ : List (S36), y_ = (x5_1 ++ [(⟨rd t233 x7_1, rd t233 x7_1⟩ : S36)]) := ⟨_, rfl⟩
           replace H : (if x6_1.length < 17592186044416 then (if 0 ≤ (wrap64 (x7_1 + 1)) then (if (wrap64 (x7_1 + 1)) < (t233.length : Int) then (if 0 ≤ (wrap64 ((y257.length : Int) - 1)) then (if (wrap64 ((y257.length : Int) - 1)) < (y257.length : Int) then (galleyref22_Runs.l0 k1 (y257.set ((wrap64 ((y257.length : Int) - 1)) : Int).toNat (⟨(rd_T36 y257 (wrap64 ((y257.length : Int) - 1))).f0, rd t233 (wrap64 (x7_1 + 1))⟩ : S36)) (x6_1 ++ [rd t236 x7_1]) (wrap64 (x7_1 + 1)) t233 t236) else (none)) else (none)) else (none)) else (none)) else (none)) = some (r1, r2) := by first | (rw [hy257]; with_reducible exact H) | (have H2_ := (Option.bind_some _ _).symm.trans H; rw [hy257]; with_reducible exact H2_) | (have H2_ := (Option.bind_some _ _).symm.trans H; with_reducible exact H2_) | with_reducible exact H | (rw [hy257]; exact H) | exact H
           have Ny257 := Aside0.mk hy257
           clear hy257
           by_cases c51 : x6_1.length < 17592186044416
           ·rw [if_pos c51] at H
            have LMc51 := Aside0.mk c51
            clear c51
            obtain ⟨y261, hy261⟩ : ∃ y_ : List Int, y_ = (x6_1 ++ [rd t236 x7_1]) := ⟨_, rfl⟩
            replace H : (if 0 ≤ (wrap64 (x7_1 + 1)) then (if (wrap64 (x7_1 + 1)) < (t233.length : Int) then (if 0 ≤ (wrap64 ((y257.length : Int) - 1)) then (if (wrap64 ((y257.length : Int) - 1)) < (y257.length : Int) then (galleyref22_Runs.l0 k1 (y257.set ((wrap64 ((y257.length : Int) - 1)) : Int).toNat (⟨(rd_T36 y257 (wrap64 ((y257.length : Int) - 1))).f0, rd t233 (wrap64 (x7_1 + 1))⟩ : S36)) y261 (wrap64 (x7_1 + 1)) t233 t236) else (none)) else (none)) else (none)) else (none)) = some (r1, r2) := by first | (rw [hy261]; with_reducible exact H) | (have H2_ := (Option.bind_some _ _).symm.trans H; rw [hy261]; with_reducible exact H2_) | (have H2_ := (Option.bind_some _ _).symm.trans H; with_reducible exact H2_) | with_reducible exact H | (rw [hy261]; exact H) | exact H
            have Ny261 := Aside0.mk hy261
            clear hy261
            obtain ⟨ji52, hji52⟩ : ∃ j_ : Int, (wrap64 (x7_1 + 1)) = j_ := ⟨_, rfl⟩
            replace H : (if 0 ≤ (ji52) then (if (ji52) < (t233.length : Int) then (if 0 ≤ (wrap64 ((y257.length : Int) - 1)) then (if (wrap64 ((y257.length : Int) - 1)) < (y257.length : Int) then (galleyref22_Runs.l0 k1 (y257.set ((wrap64 ((y257.length : Int) - 1)) : Int).toNat (⟨(rd_T36 y257 (wrap64 ((y257.length : Int) - 1))).f0, rd t233 (ji52)⟩ : S36)) y261 ji52 t233 t236) else (none)) else (none)) else (none)) else (none)) = some (r1, r2) := by first | (rw [hji52] at H; exact H) | (simp only [hji52] at H ⊢; exact H)
            have hji52w : (IntKind.i64.wrap (x7_1 + 1)) = ji52 := (i64_w _).trans hji52
            by_cases c53 : 0 ≤ (ji52)
            ·rw [if_pos c53] at H
             have c53b0 : decide (0 ≤ (ji52)) = true := decide_eq_true c53
             clear c53
             by_cases c54 : (ji52) < (t233.length : Int)
             ·rw [if_pos c54] at H
              have c54b0 : decide ((ji52) < (t233.length : Int)) = true := decide_eq_true c54
              clear c54
              obtain ⟨ji55, hji55⟩ : ∃ j_ : Int, (wrap64 ((y257.length : Int) - 1)) = j_ := ⟨_, rfl⟩
              replace H : (if 0 ≤ (ji55) then (if (ji55) < (y257.length : Int) then (galleyref22_Runs.l0 k1 (y257.set ((ji55) : Int).toNat (⟨(rd_T36 y257 (ji55)).f0, rd t233 (ji52)⟩ : S36)) y261 ji52 t233 t236) else (none)) else (none)) = some (r1, r2) := by first | (rw [hji55] at H; exact H) | (simp only [hji55] at H ⊢; exact H)
              have hji55w : (IntKind.i64.wrap ((y257.length : Int) - 1)) = ji55 := (i64_w _).trans hji55
              by_cases c56 : 0 ≤ (ji55)
              ·rw [if_pos c56] at H
               have c56b0 : decide (0 ≤ (ji55)) = true := decide_eq_true c56
               clear c56
               by_cases c57 : (ji55) < (y257.length : Int)
               ·rw [if_pos c57] at H
                have c57b0 : decide ((ji55) < (y257.length : Int)) = true := decide_eq_true c57
                clear c57
                obtain ⟨y265, hy265⟩ : ∃ y_ : List (S36), y_ = (y257.set ((ji55) : Int).toNat (⟨(rd_T36 y257 (ji55)).f0, rd t233 (ji52)⟩ : S36)) := ⟨_, rfl⟩
                replace H : (galleyref22_Runs.l0 k1 y265 y261 ji52 t233 t236) = some (r1, r2) := by first | (rw [hy265]; with_reducible exact H) | (have H2_ := (Option.bind_some _ _).symm.trans H; rw [hy265]; with_reducible exact H2_) | (have H2_ := (Option.bind_some _ _).symm.trans H; with_reducible exact H2_) | with_reducible exact H | (rw [hy265]; exact H) | exact H
                have Ny265 := Aside0.mk hy265
                clear hy265
                have H' := Aside0.mk H
                clear H
                have hcz59_0 : wr.cell? ⟨gb239, 0, none⟩ = some (.slice Ao5 t233.length co5) := (blk_cell BK239.out 0).trans rfl
                have hcz59_1 : wr.cell? ⟨gb239, 1, none⟩ = some (.slice Ao7 t236.length co7) := (blk_cell BK239.out 1).trans rfl
                have hfz59_0 := blk_frozen BK239.out 0
                have hfz59_1 := blk_frozen BK239.out 1
                try go_wp2
                have n0_ := Aside0.mk (Kd.R_drew HO_5.out)
                have n1_ := Aside0.mk (Kd.R_drew HO_6.out)
                have n2_ := Aside0.mk (Kd.R_drew HO_240000.out)
                have n3_ := Aside0.mk (Kd.R_drew HO_240001.out)
                have n4_ := Aside0.mk (blk_drew BK239.out)
                have n5_ := Aside0.mk (below_drew1 HB.out)
                clear HO_5 HO_6 HO_240000 HO_240001 BK239 HB
                have HO_5 := n0_
                have HO_6 := n1_
                have HO_240000 := n2_
                have HO_240001 := n3_
                have BK239 := n4_
                have HB := n5_
                clear n0_ n1_ n2_ n3_ n4_ n5_
                have p251 : 0 ≤ (x7_1 : Int) := of_decide_eq_true (by first | (with_reducible assumption) | assumption)
                have q251 : x7_1 < (t236.length : Int) := of_decide_eq_true (by first | (with_reducible assumption) | assumption)
                obtain ⟨ad251, e251, hx251_0⟩ := Kd.at_int (Kd.R_reads' HO_240001.out).2.2 x7_1 p251 q251
                cases e251
                replace p251 := eq_true p251
                replace q251 := eq_true q251
                have p252 : 0 ≤ ((ji32) : Int) := of_decide_eq_true (by first | (with_reducible assumption) | assumption)
                have q252 : (ji32) < (t236.length : Int) := of_decide_eq_true (by first | (with_reducible assumption) | assumption)
                obtain ⟨ad252, e252, hx252_0⟩ := Kd.at_int (Kd.R_reads' HO_240001.out).2.2 (ji32) p252 q252
                obtain rfl : ad251 = ad252 := (by injection e252)
                replace p252 := eq_true p252
                replace q252 := eq_true q252
                refine start_ (n := 16) (S := fun w' => w'.cell? ⟨gb239, 0, none⟩ = some (.slice Ao5 t233.length co5) ∧ w'.cell? ⟨gb239, 1, none⟩ = some (.slice (some ad251) t236.length co7) ∧ w'.cell? (ad251.add (x7_1).toNat) = some (.int .i64 (rd t236 x7_1)) ∧ w'.cell? (ad251.add ((ji32)).toNat) = some (.int .i64 (rd t236 (ji32)))) (ds := []) #[false, false, false, false, false, false, false, false, false, false, false, false, false, false, false, false] (by kernel_rfl) rfl rfl ⟨(blk_cell BK239.out 0).trans rfl, (blk_cell BK239.out 1).trans rfl, hx251_0, hx252_0⟩ (fun hHeld => ?_); refine with_tabW galleyref22_Runs.tab7 galleyref22_Runs.bits7 (fun HT_ HW_ => ?_)
                generalize wr.drew = w60 at HO_5 HO_6 HO_240000 HO_240001 BK239 HB hx251_0 hx252_0 hHeld ⊢
                refine pure_ (i := 0) (N := some 17) (v := ?_) (a' := ?_) #[true, false, false, false, false, false, false, false, false, false, false, false, false, false, false, false] rfl rfl (any_of HT_.out (by kernel_rfl)) (fun _ _ _ h => h) (Or.inl ⟨by rfl, ?_⟩) ?_ ?_
                rotate_left; ·(intro w'; go_simp; with_reducible rfl)
                rotate_left; ·(simp only [Act.put, List.setIfInBounds_toArray, List.set_cons_zero, List.set_cons_succ, i64_w, i32_w]; rfl)
                refine pure_ (i := 1) (N := some 18) (v := ?_) (a' := ?_) #[true, true, false, false, false, false, false, false, false, false, false, false, false, false, false, false] rfl rfl (any_of HT_.out (by kernel_rfl)) (fun _ _ _ h => h) (Or.inl ⟨by rfl, ?_⟩) ?_ ?_
                rotate_left; ·(intro w'; go_simp; with_reducible rfl)
                rotate_left; ·(simp only [Act.put, List.setIfInBounds_toArray, List.set_cons_zero, List.set_cons_succ, i64_w, i32_w]; rfl)
                refine pure_ (i := 2) (N := some 19) (v := ?_) (a' := ?_) #[true, true, true, false, false, false, false, false, false, false, false, false, false, false, false, false] rfl rfl (any_of HT_.out (by kernel_rfl)) (fun _ _ _ h => h) (Or.inl ⟨by rfl, ?_⟩) ?_ ?_
                rotate_left; ·(intro w'; go_simp; with_reducible rfl)
                rotate_left; ·(simp only [Act.put, List.setIfInBounds_toArray, List.set_cons_zero, List.set_cons_succ, i64_w, i32_w]; rfl)
                refine pure_ (i := 3) (N := some 20) (v := ?_) (a' := ?_) #[true, true, true, true, false, false, false, false, false, false, false, false, false, false, false, false] rfl rfl (any_of HT_.out (by kernel_rfl)) (fun _ _ _ h => h) (Or.inl ⟨by rfl, ?_⟩) ?_ ?_
                rotate_left; ·(intro w'; go_simp; with_reducible rfl)
                rotate_left; ·(simp only [Act.put, List.setIfInBounds_toArray, List.set_cons_zero, List.set_cons_succ, i64_w, i32_w]; rfl)
                refine pure_ (i := 5) (N := some 22) (v := ?_) (a' := ?_) #[true, true, true, true, false, true, false, false, false, false, false, false, false, false, false, false] rfl rfl (any_of HT_.out (by kernel_rfl)) (fun _ _ _ h => h) (Or.inl ⟨by rfl, ?_⟩) ?_ ?_
                rotate_left; ·(intro w'; go_simp; with_reducible rfl)
                rotate_left; ·(simp only [Act.put, List.setIfInBounds_toArray, List.set_cons_zero, List.set_cons_succ, i64_w, i32_w]; rfl)
                refine pure_ (i := 8) (N := some 25) (v := ?_) (a' := ?_) #[true, true, true, true, false, true, false, false, true, false, false, false, false, false, false, false] rfl rfl (any_of HT_.out (by kernel_rfl)) (fun _ _ _ h => h) (Or.inl ⟨by rfl, ?_⟩) ?_ ?_
                rotate_left; ·(intro w'; go_simp; with_reducible rfl)
                rotate_left; ·(simp only [Act.put, List.setIfInBounds_toArray, List.set_cons_zero, List.set_cons_succ, i64_w, i32_w]; rfl)
                refine pure_ (i := 10) (N := some 27) (v := ?_) (a' := ?_) #[true, true, true, true, false, true, false, false, true, false, true, false, false, false, false, false] rfl rfl (any_of HT_.out (by kernel_rfl)) (fun _ _ _ h => h) (Or.inl ⟨by rfl, ?_⟩) ?_ ?_
                rotate_left; ·(intro w'; go_simp; with_reducible rfl)
                rotate_left; ·(simp only [Act.put, List.setIfInBounds_toArray, List.set_cons_zero, List.set_cons_succ, i64_w, i32_w]; rfl)
                refine pure_ (i := 11) (N := some 28) (v := ?_) (a' := ?_) #[true, true, true, true, false, true, false, false, true, false, true, true, false, false, false, false] rfl rfl (any_of HT_.out (by kernel_rfl)) (fun _ _ _ h => h) (Or.inl ⟨by rfl, ?_⟩) ?_ ?_
                rotate_left; ·(intro w'; go_simp; with_reducible rfl)
                rotate_left; ·(simp only [Act.put, List.setIfInBounds_toArray, List.set_cons_zero, List.set_cons_succ, i64_w, i32_w]; rfl)
                refine take_ (i := 4) (N := some 21) (v := ?_) (a' := ?_) #[true, true, true, true, true, true, false, false, true, false, true, true, false, false, false, false] rfl rfl (take_ofW HT_.out HW_.out (by kernel_rfl)) (fun _ _ _ h => h) (Or.inl ⟨by rfl, ?_⟩) hHeld ?_ ?_
                rotate_left
                ·rintro w' ⟨s0, s1, s2, s3⟩
                 go_simp
                 with_reducible rfl
                rotate_left; ·(simp only [Act.put, List.setIfInBounds_toArray, List.set_cons_zero, List.set_cons_succ, i64_w, i32_w]; rfl)
                refine pure_ (i := 6) (N := some 23) (v := ?_) (a' := ?_) #[true, true, true, true, true, true, true, false, true, false, true, true, false, false, false, false] rfl rfl (any_of HT_.out (by kernel_rfl)) (fun _ _ _ h => h) (Or.inl ⟨by rfl, ?_⟩) ?_ ?_
                rotate_left; ·(intro w'; go_simp; with_reducible rfl)
                rotate_left; ·(simp only [Act.put, List.setIfInBounds_toArray, List.set_cons_zero, List.set_cons_succ, i64_w, i32_w]; rfl)
                refine take_ (i := 7) (N := some 24) (v := ?_) (a' := ?_) #[true, true, true, true, true, true, true, true, true, false, true, true, false, false, false, false] rfl rfl (take_ofW HT_.out HW_.out (by kernel_rfl)) (fun _ _ _ h => h) (Or.inl ⟨by rfl, ?_⟩) hHeld ?_ ?_
                rotate_left
                ·rintro w' ⟨s0, s1, s2, s3⟩
                 go_simp
                 with_reducible rfl
                rotate_left; ·(simp only [Act.put, List.setIfInBounds_toArray, List.set_cons_zero, List.set_cons_succ, i64_w, i32_w]; rfl)
                refine take_ (i := 9) (N := some 26) (v := ?_) (a' := ?_) #[true, true, true, true, true, true, true, true, true, true, true, true, false, false, false, false] rfl rfl (take_ofW HT_.out HW_.out (by kernel_rfl)) (fun _ _ _ h => h) (Or.inl ⟨by rfl, ?_⟩) hHeld ?_ ?_
                rotate_left
                ·rintro w' ⟨s0, s1, s2, s3⟩
                 go_simp
                 with_reducible rfl
                rotate_left; ·(simp only [Act.put, List.setIfInBounds_toArray, List.set_cons_zero, List.set_cons_succ, i64_w, i32_w]; rfl)
                refine pure_ (i := 12) (N := some 29) (v := ?_) (a' := ?_) #[true, true, true, true, true, true, true, true, true, true, true, true, true, false, false, false] rfl rfl (any_of HT_.out (by kernel_rfl)) (fun _ _ _ h => h) (Or.inl ⟨by rfl, ?_⟩) ?_ ?_
                rotate_left; ·(intro w'; go_simp; with_reducible rfl)
                rotate_left; ·(simp only [Act.put, List.setIfInBounds_toArray, List.set_cons_zero, List.set_cons_succ, i64_w, i32_w]; rfl)
                refine take_ (i := 13) (N := some 30) (v := ?_) (a' := ?_) #[true, true, true, true, true, true, true, true, true, true, true, true, true, true, false, false] rfl rfl (take_ofW HT_.out HW_.out (by kernel_rfl)) (fun _ _ _ h => h) (Or.inl ⟨by rfl, ?_⟩) hHeld ?_ ?_
                rotate_left
                ·rintro w' ⟨s0, s1, s2, s3⟩
                 go_simp
                 with_reducible rfl
                rotate_left; ·(simp only [Act.put, List.setIfInBounds_toArray, List.set_cons_zero, List.set_cons_succ, i64_w, i32_w]; rfl)
                refine pure_ (i := 14) (N := some 31) (v := ?_) (a' := ?_) #[true, true, true, true, true, true, true, true, true, true, true, true, true, true, true, false] rfl rfl (any_of HT_.out (by kernel_rfl)) (fun _ _ _ h => h) (Or.inl ⟨by rfl, ?_⟩) ?_ ?_
                rotate_left; ·(intro w'; go_simp; with_reducible rfl)
                rotate_left; ·(simp only [Act.put, List.setIfInBounds_toArray, List.set_cons_zero, List.set_cons_succ, i64_w, i32_w]; rfl)
                refine pure_ (i := 15) (N := some 32) (v := ?_) (a' := ?_) #[true, true, true, true, true, true, true, true, true, true, true, true, true, true, true, true] rfl rfl (any_of HT_.out (by kernel_rfl)) (fun _ _ _ h => h) (Or.inl ⟨by rfl, ?_⟩) ?_ ?_
                rotate_left; ·(intro w'; go_simp; with_reducible rfl)
                rotate_left; ·(simp only [Act.put, List.setIfInBounds_toArray, List.set_cons_zero, List.set_cons_succ, i64_w, i32_w]; rfl)
                refine done_ (done_of HT_.out (by kernel_rfl)) ?_
                try go_wp2
                have n0_ := Aside0.mk (Kd.R_drew HO_5.out)
                have n1_ := Aside0.mk (Kd.R_drew HO_6.out)
                have n2_ := Aside0.mk (Kd.R_drew HO_240000.out)
                have n3_ := Aside0.mk (Kd.R_drew HO_240001.out)
                have n4_ := Aside0.mk (blk_drew BK239.out)
                have n5_ := Aside0.mk (below_drew1 HB.out)
                clear HO_5 HO_6 HO_240000 HO_240001 BK239 HB
                have HO_5 := n0_
                have HO_6 := n1_
                have HO_240000 := n2_
                have HO_240001 := n3_
                have BK239 := n4_
                have HB := n5_
                clear n0_ n1_ n2_ n3_ n4_ n5_
                have p255 : 0 ≤ (x7_1 : Int) := of_decide_eq_true (by first | (with_reducible assumption) | assumption)
                have q255 : x7_1 < (t233.length : Int) := of_decide_eq_true (by first | (with_reducible assumption) | assumption)
                obtain ⟨ad255, e255, hx255_0⟩ := Kd.at_int (Kd.R_reads' HO_240000.out).2.2 x7_1 p255 q255
                cases e255
                replace p255 := eq_true p255
                replace q255 := eq_true q255
                have p256 : 0 ≤ (x7_1 : Int) := of_decide_eq_true (by first | (with_reducible assumption) | assumption)
                have q256 : x7_1 < (t233.length : Int) := of_decide_eq_true (by first | (with_reducible assumption) | assumption)
                obtain ⟨ad256, e256, hx256_0⟩ := Kd.at_int (Kd.R_reads' HO_240000.out).2.2 x7_1 p256 q256
                obtain rfl : ad255 = ad256 := (by injection e256)
                replace p256 := eq_true p256
                replace q256 := eq_true q256
                refine start_ (n := 15) (S := fun w' => w'.cell? ⟨gb239, 0, none⟩ = some (.slice (some ad255) t233.length co5) ∧ w'.cell? ⟨gb239, 1, none⟩ = some (.slice (some ad251) t236.length co7) ∧ w'.cell? (ad255.add (x7_1).toNat) = some (.int .i64 (rd t233 x7_1)) ∧ w'.cell? (ad255.add (x7_1).toNat) = some (.int .i64 (rd t233 x7_1))) (ds := [12, 13]) #[false, false, false, false, false, false, false, false, false, false, false, false, false, false, false] (by kernel_rfl) rfl rfl ⟨(blk_cell BK239.out 0).trans rfl, (blk_cell BK239.out 1).trans rfl, hx255_0, hx256_0⟩ (fun hHeld => ?_); refine with_tabW galleyref22_Runs.tab8 galleyref22_Runs.bits8 (fun HT_ HW_ => ?_)
                generalize w60.drew = w61 at HO_5 HO_6 HO_240000 HO_240001 BK239 HB hx255_0 hx256_0 hHeld ⊢
                refine pure_ (i := 0) (N := some 33) (v := ?_) (a' := ?_) #[true, false, false, false, false, false, false, false, false, false, false, false, false, false, false] rfl rfl (any_of HT_.out (by kernel_rfl)) (fun _ _ _ h => h) (Or.inl ⟨by rfl, ?_⟩) ?_ ?_
                rotate_left; ·(intro w'; go_simp; with_reducible rfl)
                rotate_left; ·(simp only [Act.put, List.setIfInBounds_toArray, List.set_cons_zero, List.set_cons_succ, i64_w, i32_w]; rfl)
                refine pure_ (i := 1) (N := some 34) (v := ?_) (a' := ?_) #[true, true, false, false, false, false, false, false, false, false, false, false, false, false, false] rfl rfl (any_of HT_.out (by kernel_rfl)) (fun _ _ _ h => h) (Or.inl ⟨by rfl, ?_⟩) ?_ ?_
                rotate_left; ·(intro w'; go_simp; with_reducible rfl)
                rotate_left; ·(simp only [Act.put, List.setIfInBounds_toArray, List.set_cons_zero, List.set_cons_succ, i64_w, i32_w]; rfl)
                refine pure_ (i := 3) (N := some 36) (v := ?_) (a' := ?_) #[true, true, false, true, false, false, false, false, false, false, false, false, false, false, false] rfl rfl (any_of HT_.out (by kernel_rfl)) (fun _ _ _ h => h) (Or.inl ⟨by rfl, ?_⟩) ?_ ?_
                rotate_left; ·(intro w'; go_simp; with_reducible rfl)
                rotate_left; ·(simp only [Act.put, List.setIfInBounds_toArray, List.set_cons_zero, List.set_cons_succ, i64_w, i32_w]; rfl)
                refine pure_ (i := 6) (N := some 39) (v := ?_) (a' := ?_) #[true, true, false, true, false, false, true, false, false, false, false, false, false, false, false] rfl rfl (any_of HT_.out (by kernel_rfl)) (fun _ _ _ h => h) (Or.inl ⟨by rfl, ?_⟩) ?_ ?_
                rotate_left; ·(intro w'; go_simp; with_reducible rfl)
                rotate_left; ·(simp only [Act.put, List.setIfInBounds_toArray, List.set_cons_zero, List.set_cons_succ, i64_w, i32_w]; rfl)
                refine pure_ (i := 8) (N := some 41) (v := ?_) (a' := ?_) #[true, true, false, true, false, false, true, false, true, false, false, false, false, false, false] rfl rfl (any_of HT_.out (by kernel_rfl)) (fun _ _ _ h => h) (Or.inl ⟨by rfl, ?_⟩) ?_ ?_
                rotate_left; ·(intro w'; go_simp; with_reducible rfl)
                rotate_left; ·(simp only [Act.put, List.setIfInBounds_toArray, List.set_cons_zero, List.set_cons_succ, i64_w, i32_w]; rfl)
                refine take_ (i := 2) (N := some 35) (v := ?_) (a' := ?_) #[true, true, true, true, false, false, true, false, true, false, false, false, false, false, false] rfl rfl (take_ofW HT_.out HW_.out (by kernel_rfl)) (fun _ _ _ h => h) (Or.inl ⟨by rfl, ?_⟩) hHeld ?_ ?_
                rotate_left
                ·rintro w' ⟨s0, s1, s2, s3⟩
                 go_simp
                 with_reducible rfl
                rotate_left; ·(simp only [Act.put, List.setIfInBounds_toArray, List.set_cons_zero, List.set_cons_succ, i64_w, i32_w]; rfl)
                refine pure_ (i := 4) (N := some 37) (v := ?_) (a' := ?_) #[true, true, true, true, true, false, true, false, true, false, false, false, false, false, false] rfl rfl (any_of HT_.out (by kernel_rfl)) (fun _ _ _ h => h) (Or.inl ⟨by rfl, ?_⟩) ?_ ?_
                rotate_left; ·(intro w'; go_simp; with_reducible rfl)
                rotate_left; ·(simp only [Act.put, List.setIfInBounds_toArray, List.set_cons_zero, List.set_cons_succ, i64_w, i32_w]; rfl)
                refine take_ (i := 5) (N := some 38) (v := ?_) (a' := ?_) #[true, true, true, true, true, true, true, false, true, false, false, false, false, false, false] rfl rfl (take_ofW HT_.out HW_.out (by kernel_rfl)) (fun _ _ _ h => h) (Or.inl ⟨by rfl, ?_⟩) hHeld ?_ ?_
                rotate_left
                ·rintro w' ⟨s0, s1, s2, s3⟩
                 go_simp
                 with_reducible rfl
                rotate_left; ·(simp only [Act.put, List.setIfInBounds_toArray, List.set_cons_zero, List.set_cons_succ, i64_w, i32_w]; rfl)
                refine take_ (i := 7) (N := some 40) (v := ?_) (a' := ?_) #[true, true, true, true, true, true, true, true, true, false, false, false, false, false, false] rfl rfl (take_ofW HT_.out HW_.out (by kernel_rfl)) (fun _ _ _ h => h) (Or.inl ⟨by rfl, ?_⟩) hHeld ?_ ?_
                rotate_left
                ·rintro w' ⟨s0, s1, s2, s3⟩
                 go_simp
                 with_reducible rfl
                rotate_left; ·(simp only [Act.put, List.setIfInBounds_toArray, List.set_cons_zero, List.set_cons_succ, i64_w, i32_w]; rfl)
                refine pure_ (i := 9) (N := some 42) (v := ?_) (a' := ?_) #[true, true, true, true, true, true, true, true, true, true, false, false, false, false, false] rfl rfl (any_of HT_.out (by kernel_rfl)) (fun _ _ _ h => h) (Or.inl ⟨by rfl, ?_⟩) ?_ ?_
                rotate_left; ·(intro w'; go_simp; with_reducible rfl)
                rotate_left; ·(simp only [Act.put, List.setIfInBounds_toArray, List.set_cons_zero, List.set_cons_succ, i64_w, i32_w]; rfl)
                refine take_ (i := 10) (N := some 43) (v := ?_) (a' := ?_) #[true, true, true, true, true, true, true, true, true, true, true, false, false, false, false] rfl rfl (take_ofW HT_.out HW_.out (by kernel_rfl)) (fun _ _ _ h => h) (Or.inl ⟨by rfl, ?_⟩) hHeld ?_ ?_
                rotate_left
                ·rintro w' ⟨s0, s1, s2, s3⟩
                 go_simp
                 with_reducible rfl
                rotate_left; ·(simp only [Act.put, List.setIfInBounds_toArray, List.set_cons_zero, List.set_cons_succ, i64_w, i32_w]; rfl)
                refine pure_ (i := 11) (N := some 44) (v := ?_) (a' := ?_) #[true, true, true, true, true, true, true, true, true, true, true, true, false, false, false] rfl rfl (any_of HT_.out (by kernel_rfl)) (fun _ _ _ h => h) (Or.inl ⟨by rfl, ?_⟩) ?_ ?_
                rotate_left; ·(intro w'; go_simp; with_reducible rfl)
                rotate_left; ·(simp only [Act.put, List.setIfInBounds_toArray, List.set_cons_zero, List.set_cons_succ, i64_w, i32_w]; rfl)
                refine last_ (i := 12) (N := some 45) #[true, true, true, true, true, true, true, true, true, true, true, true, true, false, false] rfl rfl (one_of HT_.out (by kernel_rfl)) (by decide) (fun K hK => ?_)
                refine value_ (w1 := ?_) (v := ?_) (by rfl) rfl ?_ ?_
                rotate_left 2
                ·go_simp
                 constructor
                 ·rfl
                 ·rfl
                refine hK.out _ _ ?_
                clear hK K
                refine norm_ (a' := ?_) ?_ ?_
                rotate_left
                ·show Act.put _ (some 45) _ = _
                 simp only [Act.put, List.setIfInBounds_toArray, List.set_cons_zero, List.set_cons_succ, i64_w, i32_w]
                 rfl
                refine last_ (i := 13) (N := some 46) #[true, true, true, true, true, true, true, true, true, true, true, true, true, true, false] rfl rfl (one_of HT_.out (by kernel_rfl)) (by decide) (fun K hK => ?_)
                refine Kd.R_append_step k36 (w0 := w) w.heap.size (by rfl) (.tmp 33) (.tmp 45) 31 36 (.agg #[(.int .i64 0), (.int .i64 0)]) 16 rfl Tryd.underlying31 info36 rfl (by decide) (by omega) u5 x5_1 (⟨rd t233 x7_1, rd t233 x7_1⟩ : S36) [.int .i64 (rd t233 x7_1), .int .i64 (rd t233 x7_1)] (fun _ => True) (fun _ => False) rfl rfl ?aP (fun _ hk => hk.elim) ?aF ?aO ?aB ?aS ?aL ?_
                (case aP => exact k36_mkM _ _ _ (⟨rd t233 x7_1, rd t233 x7_1⟩ : S36))
                (case aB => exact (by repeat (first | (with_reducible first | exact HB.out | apply below_alloc | apply pw_below_drewN | apply below_drew1 | refine below_set ?_ GE239.out) | exact HB.out)))
                (case aF => exact (fun _ _ => trivial))
                (case aO => exact (by (with_reducible repeat (first | apply Kd.R_alloc | apply Kd.R_drewN | apply Kd.R_drew)); exact HO_5.out))
                (case aS => exact (below_size (by repeat (first | (with_reducible first | exact HB.out | apply below_alloc | apply pw_below_drewN | apply below_drew1 | refine below_set ?_ GE239.out) | exact HB.out))))
                (case aL => have := LMc50.out; omega)
                intro v258 w62 ho hb hg hat
                rw [← Ny257.out] at ho
                have n0_ := Aside0.mk (Kd.R_over' (by (with_reducible repeat (first | apply Kd.R_alloc | apply Kd.R_drewN | apply Kd.R_drew)); exact HO_6.out) (Kd.R_typed (by (with_reducible repeat (first | apply Kd.R_alloc | apply Kd.R_drewN | apply Kd.R_drew)); exact HO_5.out)) (by decide) hg)
                have n1_ := Aside0.mk (Kd.R_over' (by (with_reducible repeat (first | apply Kd.R_alloc | apply Kd.R_drewN | apply Kd.R_drew)); exact HO_240000.out) (Kd.R_typed (by (with_reducible repeat (first | apply Kd.R_alloc | apply Kd.R_drewN | apply Kd.R_drew)); exact HO_5.out)) (by decide) hg)
                have n2_ := Aside0.mk (Kd.R_over' (by (with_reducible repeat (first | apply Kd.R_alloc | apply Kd.R_drewN | apply Kd.R_drew)); exact HO_240001.out) (Kd.R_typed (by (with_reducible repeat (first | apply Kd.R_alloc | apply Kd.R_drewN | apply Kd.R_drew)); exact HO_5.out)) (by decide) hg)
                have n3_ := Aside0.mk (blk_grown (g := gb239) (o := .cells #[.slice (some ad255) t233.length co5, .slice (some ad251) t236.length co7] 96 (0, 0)) (by (with_reducible repeat (first | refine blk_drewN ?_ _ | refine blk_drew ?_ | refine blk_alloc ?_ _)); exact BK239.out) hg (Kd.R_ne HO_5.out BK239.out (by decide)))
                have n4_ := Aside0.mk (hb)
                have n5_ := Aside0.mk (ho)
                clear HO_6 HO_240000 HO_240001 BK239 HB HO_5
                have HO_6 := n0_
                have HO_240000 := n1_
                have HO_240001 := n2_
                have BK239 := n3_
                have HB := n4_
                have HO259 := n5_
                clear n0_ n1_ n2_ n3_ n4_ n5_
                clear ho hb hg hat
                refine hK.out _ _ ?_
                clear hK K
                refine norm_ (a' := ?_) ?_ ?_
                rotate_left
                ·show Act.put _ (some 46) _ = _
                 simp only [Act.put, List.setIfInBounds_toArray, List.set_cons_zero, List.set_cons_succ, i64_w, i32_w]
                 rfl
                refine pure_ (i := 14) (N := some 5) (v := ?_) (a' := ?_) #[true, true, true, true, true, true, true, true, true, true, true, true, true, true, true] rfl rfl (any_of HT_.out (by kernel_rfl)) (fun _ _ _ h => h) (Or.inl ⟨by rfl, ?_⟩) ?_ ?_
                rotate_left; ·(intro w'; go_simp; with_reducible rfl)
                rotate_left; ·(simp only [Act.put, List.setIfInBounds_toArray, List.set_cons_zero, List.set_cons_succ, i64_w, i32_w]; rfl)
                refine done_ (done_of HT_.out (by kernel_rfl)) ?_
                have hcz63_0 : w62.cell? ⟨gb239, 0, none⟩ = some (.slice (some ad255) t233.length co5) := (blk_cell BK239.out 0).trans rfl
                have hcz63_1 : w62.cell? ⟨gb239, 1, none⟩ = some (.slice (some ad251) t236.length co7) := (blk_cell BK239.out 1).trans rfl
                have hfz63_0 := blk_frozen BK239.out 0
                have hfz63_1 := blk_frozen BK239.out 1
                have p260 : 0 ≤ (x7_1 : Int) := of_decide_eq_true (by first | (with_reducible assumption) | assumption)
                have q260 : x7_1 < (t236.length : Int) := of_decide_eq_true (by first | (with_reducible assumption) | assumption)
                obtain ⟨ad260, e260, hx260_0⟩ := Kd.at_int (Kd.R_reads' HO_240001.out).2.2 x7_1 p260 q260
                obtain rfl : ad251 = ad260 := (by injection e260)
                replace p260 := eq_true p260
                replace q260 := eq_true q260
                try go_wp2_with (first | ((with_reducible refine gate_builtin (b := .append) (xs := #[.tmp 47, .tmp 53]) rfl ?_); at_builtin; refine Kd.R_append (Kd.int .i64) (w0 := w) w.heap.size rfl (.tmp 47) (.tmp 53) 69 3 (.int .i64 0) 8 rfl Tryd.underlying69 info3 rfl (by decide) (by omega) u6 x6_1 (rd t236 x7_1) [.int .i64 (rd t236 x7_1)] (fun k_ => some k_ ≠ (.slice (some ad255) t233.length co5 : Value).ownBlock ∧ some k_ ≠ (.slice (some ad251) t236.length co7 : Value).ownBlock) (fun _ => False) rfl rfl ?aP (fun _ hk => hk.elim) ?aF ?aO ?aB ?aS ?aL ?_; (case aP => exact rfl); (case aB => exact (by repeat (first | (with_reducible first | exact HB.out | apply below_alloc | apply pw_below_drewN | apply below_drew1 | refine below_set ?_ GE239.out) | exact HB.out))); (case aF => exact (fun k_ hk => ⟨Kd.fresh' (Kd.R_lt (by (with_reducible repeat (first | apply Kd.R_alloc | apply Kd.R_drewN | apply Kd.R_drew)); exact HO_240000.out)) k_ hk, Kd.fresh' (Kd.R_lt (by (with_reducible repeat (first | apply Kd.R_alloc | apply Kd.R_drewN | apply Kd.R_drew)); exact HO_240001.out)) k_ hk⟩)); (case aO => exact (by (with_reducible repeat (first | apply Kd.R_alloc | apply Kd.R_drewN | apply Kd.R_drew)); exact HO_6.out)); (case aS => exact (below_size (by repeat (first | (with_reducible first | exact HB.out | apply below_alloc | apply pw_below_drewN | apply below_drew1 | refine below_set ?_ GE239.out) | exact HB.out)))); (case aL => have := LMc51.out; omega); intro v262 w64 ho hb hg hat; rw [← Ny261.out] at ho; have n0_ := Aside0.mk (Kd.R_after (ok := (fun k_ => some k_ ≠ (.slice (some ad251) t236.length co7 : Value).ownBlock)) (by (with_reducible repeat (first | apply Kd.R_alloc | apply Kd.R_drewN | apply Kd.R_drew)); exact Kd.R_mono HO_240000.out (fun _ hk => ⟨hk.2, hk.1⟩)) hg hat); have n1_ := Aside0.mk (Kd.R_after (ok := (fun k_ => some k_ ≠ (.slice (some ad255) t233.length co5 : Value).ownBlock)) (by (with_reducible repeat (first | apply Kd.R_alloc | apply Kd.R_drewN | apply Kd.R_drew)); exact Kd.R_mono HO_240001.out (fun _ hk => ⟨hk.2, hk.1⟩)) hg hat); have n2_ := Aside0.mk (blk_grown (g := gb239) (o := .cells #[.slice (some ad255) t233.length co5, .slice (some ad251) t236.length co7] 96 (0, 0)) (by (with_reducible repeat (first | refine blk_drewN ?_ _ | refine blk_drew ?_ | refine blk_alloc ?_ _)); exact BK239.out) hg (Kd.R_ne HO_6.out BK239.out (by decide))); have n3_ := Aside0.mk (Kd.R_over' (by (with_reducible repeat (first | apply Kd.R_alloc | apply Kd.R_drewN | apply Kd.R_drew)); exact HO259.out) (Kd.R_typed (by (with_reducible repeat (first | apply Kd.R_alloc | apply Kd.R_drewN | apply Kd.R_drew)); exact HO_6.out)) (by decide) hg); have n4_ := Aside0.mk (hb); have n5_ := Aside0.mk (ho); clear HO_240000; clear HO_240001; clear BK239; clear HO259; clear HB; clear HO_6; have HO_240000 := n0_; have HO_240001 := n1_; have BK239 := n2_; have HO259 := n3_; have HB := n4_; have HO263 := n5_; clear n0_ n1_ n2_ n3_ n4_ n5_; clear ho hb hg hat; obtain ⟨Ao65, co65, eo65⟩ := Kd.R_slice HO259.out; subst eo65; have hcz66_0 : w64.cell? ⟨gb239, 0, none⟩ = some (.slice (some ad255) t233.length co5) := (blk_cell BK239.out 0).trans rfl; have hcz66_1 : w64.cell? ⟨gb239, 1, none⟩ = some (.slice (some ad251) t236.length co7) := (blk_cell BK239.out 1).trans rfl; have hfz66_0 := blk_frozen BK239.out 0; have hfz66_1 := blk_frozen BK239.out 1; have p264 : 0 ≤ ((ji52) : Int) := of_decide_eq_true (by first | (with_reducible assumption) | assumption); have q264 : (ji52) < (t233.length : Int) := of_decide_eq_true (by first | (with_reducible assumption) | assumption); obtain ⟨ad264, e264, hx264_0⟩ := Kd.at_int (Kd.R_reads' HO_240000.out).2.2 (ji52) p264 q264; obtain rfl : ad255 = ad264 := (by injection e264); replace p264 := eq_true p264; replace q264 := eq_true q264; have p58 : 0 ≤ ((ji55) : Int) := of_decide_eq_true (by first | (with_reducible assumption) | assumption); have q58 : ((ji55) : Int) < ((y257.length : Int) : Int) := of_decide_eq_true (by first | (with_reducible assumption) | assumption); obtain ⟨go58, co58, eo58, gb58, gl58, cl58, HG58⟩ := Kd.R_form HO259.out (by omega); (first | cases eo58 | (injection eo58 with ea_ en_ ec_; (first | subst ea_ | (injection ea_ with ea_; subst ea_)); subst ec_; clear en_)); have GB58 := Aside0.mk gb58; have GG58 := Aside0.mk HG58; clear gb58 gl58 HG58; obtain ⟨ce58, hcl58, hM58, hcc58, hfr58⟩ := Kd.R_elem HO259.out z36 ((ji55) : Int) p58 q58; obtain rfl := k36_openM hM58; have hx58_0 : w64.cell? ⟨go58, ((ji55) : Int).toNat * 2, none⟩ = some (.int .i64 ((rd_T36 y257 (ji55)).f0)) := hcc58 0 _ rfl; have hx58_1 : w64.cell? ⟨go58, ((ji55) : Int).toNat * 2 + 1, none⟩ = some (.int .i64 ((rd_T36 y257 (ji55)).f1)) := hcc58 1 _ rfl; have hf58_0 : w64.frozen? ⟨go58, ((ji55) : Int).toNat * 2, none⟩ = false := hfr58 0; have hf58_1 : w64.frozen? ⟨go58, ((ji55) : Int).toNat * 2 + 1, none⟩ = false := hfr58 1; clear hcl58 hcc58 hfr58 hM58; replace p58 := eq_true p58; replace q58 := eq_true q58; have HX67 := Aside0.mk (show Kd.R k36 36 w64 w.heap.size (fun _ => True) (.slice (some ⟨go58, 0, none⟩) y257.length co65) y257 from (by (with_reducible repeat (first | apply Kd.R_alloc | apply Kd.R_drewN | apply Kd.R_drew)); exact HO259.out)); obtain ⟨ce67, hcl67, hM67, hcc67, hfr67⟩ := Kd.R_elem HX67.out z36 ((ji55) : Int) (of_decide_eq_true (by first | (with_reducible assumption) | assumption)) (by have h_ : ((ji55) : Int) < ((y257.length : Int) : Int) := of_decide_eq_true (by first | (with_reducible assumption) | assumption); first | exact h_ | (have e_ := (Kd.R_reads' HO259.out).1; omega) | simpa using h_); obtain rfl := k36_openM hM67; have HP67 := Kd.R_seg HX67.out ((ji55) : Int) (of_decide_eq_true (by first | (with_reducible assumption) | assumption)) (by have h_ : ((ji55) : Int) < ((y257.length : Int) : Int) := of_decide_eq_true (by first | (with_reducible assumption) | assumption); first | exact h_ | (have e_ := (Kd.R_reads' HO259.out).1; omega) | simpa using h_) (seg := [.int .i64 (rd t233 (ji52))]) (j := 1) hcl67 hcc67 (show 2 ≤ 2 from by decide) (x' := (⟨(rd_T36 y257 (ji55)).f0, rd t233 (ji52)⟩ : S36)) (k36_mkM _ _ _ (⟨(rd_T36 y257 (ji55)).f0, rd t233 (ji52)⟩ : S36) ) (fun _ hk => hk); have hx67_1 := hcc67 1 _ rfl; (try simp only [show (k36).sz = 2 from rfl, Nat.mul_one, Nat.add_zero] at hx67_1); have hf67_1 := hfr67 1; (try simp only [show (k36).sz = 2 from rfl, Nat.mul_one, Nat.add_zero] at hf67_1); clear hcl67 hcc67 hfr67 hM67) | ((with_reducible refine gate_store (t := 3) (p := 66) rfl ?_); refine store_event (t := 3) (p := 66) (v := ?vo_w68) (w1 := (w64.setCell ⟨go58, ((ji55) : Int).toNat * 2 + 1, none⟩ (.int .i64 (rd t233 (ji52))))) ?hg ?ho ?hn ?hr ?_; (case ho => rfl); (case hg => rfl); (case hn => rfl); (case hr => first | (go_simp; done) | (go_simp; rfl)); intro w68 hw; have hg : w64.grownBy w68 (some go58) := (by rw [hw]; exact HP67.2); have hp_ : Kd.R k36 36 w68 w.heap.size (fun _ => True) (.slice (some ⟨go58, 0, none⟩) y257.length co65) y265 := (by rw [hw, Ny265.out]; exact HP67.1); clear HP67; have n0_ := Aside0.mk (Kd.R_over' (v := (.slice (some ⟨go58, 0, none⟩) y257.length co65)) (by (with_reducible repeat (first | apply Kd.R_alloc | apply Kd.R_drewN | apply Kd.R_drew)); exact HO_240000.out) (Kd.R_typed HO259.out) (by decide) hg); have n1_ := Aside0.mk (Kd.R_over' (v := (.slice (some ⟨go58, 0, none⟩) y257.length co65)) (by (with_reducible repeat (first | apply Kd.R_alloc | apply Kd.R_drewN | apply Kd.R_drew)); exact HO_240001.out) (Kd.R_typed HO259.out) (by decide) hg); have n2_ := Aside0.mk (blk_grown (g := gb239) (o := .cells #[.slice (some ad255) t233.length co5, .slice (some ad251) t236.length co7] 96 (0, 0)) (by (with_reducible repeat (first | refine blk_drewN ?_ _ | refine blk_drew ?_ | refine blk_alloc ?_ _)); exact BK239.out) hg (Kd.R_ne HO259.out BK239.out (by decide))); have n3_ := Aside0.mk (hp_); have n4_ := Aside0.mk (Kd.R_over' (v := (.slice (some ⟨go58, 0, none⟩) y257.length co65)) (by (with_reducible repeat (first | apply Kd.R_alloc | apply Kd.R_drewN | apply Kd.R_drew)); exact HO263.out) (Kd.R_typed HO259.out) (by decide) hg); have n5_ := Aside0.mk ((by rw [hw]; exact below_set (HB.out) GB58.out : Below w.heap.size w w68)); clear HO_240000; clear HO_240001; clear BK239; clear HO259; clear HO263; clear HB; have HO_240000 := n0_; have HO_240001 := n1_; have BK239 := n2_; have HO259 := n3_; have HO263 := n4_; have HB := n5_; clear n0_ n1_ n2_ n3_ n4_ n5_; clear hg hw hp_))
                go_roundg k1
                case measure => have := HK1.out; omega
                case rel => exact ⟨(y265), (y261), (ji52), (by first | rfl | (simp; done) | (simp only [← hji52] <;> (first | rfl | simp)) | (simp [*]; done)), H', ⟨by have := HK1.out; omega⟩, ⟨by (with_reducible repeat (first | apply Kd.R_alloc | apply Kd.R_drewN | apply Kd.R_drew)); exact HO259.out⟩, ⟨by (with_reducible repeat (first | apply Kd.R_alloc | apply Kd.R_drewN | apply Kd.R_drew)); exact HO263.out⟩, ⟨by (with_reducible repeat (first | apply Kd.R_alloc | apply Kd.R_drewN | apply Kd.R_drew)); exact Kd.R_mono HO_240000.out (fun _ hk => ⟨hk.2, hk.1⟩)⟩, ⟨by (with_reducible repeat (first | apply Kd.R_alloc | apply Kd.R_drewN | apply Kd.R_drew)); exact Kd.R_mono HO_240001.out (fun _ hk => ⟨hk.2, hk.1⟩)⟩, ⟨by (with_reducible repeat (first | refine blk_drewN ?_ _ | refine blk_drew ?_ | refine blk_alloc ?_ _)); exact BK239.out⟩, ⟨by repeat (first | (with_reducible first | exact HB.out | apply below_alloc | apply pw_below_drewN | apply below_drew1 | refine below_set ?_ GE239.out) | exact HB.out)⟩⟩
               ·rw [if_neg c57] at H
                exact absurd H (by simp)
              ·rw [if_neg c56] at H
               exact absurd H (by simp)
             ·rw [if_neg c54] at H
              exact absurd H (by simp)
            ·rw [if_neg c53] at H
             exact absurd H (by simp)
           ·rw [if_neg c51] at H
            exact absurd H (by simp)
          ·rw [if_neg c50] at H
           exact absurd H (by simp)
         ·rw [if_neg c49] at H
          exact absurd H (by simp)
       ·rw [if_neg c34] at H
        exact absurd H (by simp)
      ·rw [if_neg c33] at H
       exact absurd H (by simp)
     ·rw [if_neg c31] at H
      exact absurd H (by simp)
   ·rw [if_neg c8] at H
    have c8b0 : decide (x7_1 < (t236.length : Int)) = false := decide_eq_false c8
    clear c8
    simp only [Option.some.injEq, Prod.mk.injEq] at H
    obtain ⟨rfl, rfl⟩ := H
    have hcz69_0 : wr.cell? ⟨gb239, 0, none⟩ = some (.slice Ao5 t233.length co5) := (blk_cell BK239.out 0).trans rfl
    have hcz69_1 : wr.cell? ⟨gb239, 1, none⟩ = some (.slice Ao7 t236.length co7) := (blk_cell BK239.out 1).trans rfl
    have hfz69_0 := blk_frozen BK239.out 0
    have hfz69_1 := blk_frozen BK239.out 1
    go_wp2
    go_ret2
    exact ⟨_, _, by first | rfl | (simp [errW_none, errW_some] <;> rfl) | (simp [*, errW_none, errW_some] <;> rfl), by (with_reducible repeat (first | apply Kd.R_alloc | apply Kd.R_drewN | apply Kd.R_drew)); exact HO_5.out, by (with_reducible repeat (first | apply Kd.R_alloc | apply Kd.R_drewN | apply Kd.R_drew)); exact Kd.R_mono HO_6.out (fun _ hk => trivial), by repeat (first | (with_reducible first | exact HB.out | apply below_alloc | apply pw_below_drewN | apply below_drew1 | refine below_set ?_ GE239.out) | exact HB.out)⟩

end Go.Proofs.YtijbkiajhicooaaDoor.PW

