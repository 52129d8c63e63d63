-- Written by merge.py, a program of this session's: PWx22
import Derived.Test.YtijbkiajhicooaaDoorCaretsNilM1
import Derived.Test.YtijbkiajhicooaaDoorCaretsNilM4
namespace Go.Proofs.YtijbkiajhicooaaDoor.PW
open Go.RowKit Go.Proofs.YtijbkiajhicooaaDoorW.PrintWords Go.Proofs.YtijbkiajhicooaaDoorW.PrintLast Go.Proofs.YtijbkiajhicooaaDoorW.PrintMore
attribute [local go_sem] max2_int min2_int max_two min_two max_three min_three max_four min_four   -- for this text's walks alone
set_option linter.unusedVariables false
set_option linter.unusedSimpArgs false

/-- A state of type 103 at block g of W; what its slices lead to came in by w0. -/
def IsS103 (w0 W : World) (g : Nat) (f0 : ByteArray) (f1 : List (S100)) : Prop := ∃ A1 c1, W.heap[g]? = some (.cells #[.string f0, .slice A1 f1.length c1] 103 (0, 0)) ∧ w0.heap.size ≤ g ∧ Kd.C k100 w0 A1 f1.length f1
theorem IsS103.grown {w0 W : World} {g : Nat} {f0 : ByteArray} {f1 : List (S100)} {W1 : World} {row : Option Nat} (h : IsS103 w0 W g f0 f1) (hw : W.grownBy W1 row) (hne : some g ≠ row) : IsS103 w0 W1 g f0 f1 := by
 obtain ⟨A1, c1, hb, hg, hr1⟩ := h
 exact ⟨A1, c1, blk_grown hb hw hne, hg, hr1⟩
theorem IsS103.below {w0 W : World} {g : Nat} {f0 : ByteArray} {f1 : List (S100)} {W1 : World} (h : IsS103 w0 W g f0 f1) (hw : Below W.heap.size W W1) : IsS103 w0 W1 g f0 f1 := h.grown (grown_of_below hw none) (by simp)
theorem IsS103.alloc {w0 W : World} {g : Nat} {f0 : ByteArray} {f1 : List (S100)} (h : IsS103 w0 W g f0 f1) (o : Obj) : IsS103 w0 (W.alloc o) g f0 f1 := h.below (below_alloc (Below.refl _ _) o)
theorem IsS103.drewN {w0 W : World} {g : Nat} {f0 : ByteArray} {f1 : List (S100)} (h : IsS103 w0 W g f0 f1) (m : Nat) : IsS103 w0 (W.drewN m) g f0 f1 := h
theorem IsS103.drew {w0 W : World} {g : Nat} {f0 : ByteArray} {f1 : List (S100)} (h : IsS103 w0 W g f0 f1) : IsS103 w0 W.drew g f0 f1 := h
mutual
def carets_settled.l0 : Nat → ByteArray → List Int → List (S100) → List (S100) → Int → Int → Option (ByteArray × (List (S100)))
 | 0, _, _, _, _, _, _ => none
 | k + 1, x0, x5, x6, x22, x23, x24 => if x24 < x23 then (if 0 ≤ x24 then (if x24 < (x22.length : Int) then ((step_Floor.f k x5 ((rd_T100 x22 x24).f0)).bind fun bt175 => ((step_Floor.f k x5 ((rd_T100 x22 x24).f1)).bind fun bt177 => (if x6.length < 8796093022208 then (carets_settled.l0 k x0 x5 (x6 ++ [(⟨bt175.1, bt177.1⟩ : S100)]) x22 x23 (wrap64 (x24 + 1))) else (none)))) else (none)) else (none)) else ((api_Caret_88.f k x6).bind fun t182 => (carets_settled.l1 k t182 (x6.length : Int) 0 x0 ([] : List (S100))))
def carets_settled.l1 : Nat → List (S100) → Int → Int → ByteArray → List (S100) → Option (ByteArray × (List (S100)))
 | 0, _, _, _, _, _ => none
 | k + 1, x54, x55, x56, x184000, x184001 => if x56 < x55 then (if 0 ≤ x56 then (if x56 < (x54.length : Int) then (if (x184001.length : Int) = 0 then (carets_settled.j2 k (x184001.length : Int) x54 x55 x56 true x184000 x184001 ((rd_T100 x54 x56).f0) ((rd_T100 x54 x56).f1)) else ((carets_low.f ((rd_T100 x54 x56).f0) ((rd_T100 x54 x56).f1)).bind fun t186 => (if 0 ≤ (wrap64 ((x184001.length : Int) - 1)) then (if (wrap64 ((x184001.length : Int) - 1)) < (x184001.length : Int) then ((carets_high.f ((rd_T100 x184001 (wrap64 ((x184001.length : Int) - 1))).f0) ((rd_T100 x184001 (wrap64 ((x184001.length : Int) - 1))).f1)).bind fun t188 => (carets_settled.j2 k (x184001.length : Int) x54 x55 x56 (decide (t186 > t188)) x184000 x184001 ((rd_T100 x54 x56).f0) ((rd_T100 x54 x56).f1))) else (none)) else (none)))) else (none)) else (none)) else (some (x184000, x184001))
def carets_settled.j2 : Nat → Int → List (S100) → Int → Int → Bool → ByteArray → List (S100) → Int → Int → Option (ByteArray × (List (S100)))
 | 0, _, _, _, _, _, _, _, _, _ => none
 | k + 1, x16, x54, x55, x56, x80, x184000, x184001, x186000, x186001 => if x80 = true then (if x184001.length < 8796093022208 then (carets_settled.l1 k x54 x55 (wrap64 (x56 + 1)) x184000 (x184001 ++ [(⟨x186000, x186001⟩ : S100)])) else (none)) else (if 0 ≤ (wrap64 (x16 - 1)) then (if (wrap64 (x16 - 1)) < (x184001.length : Int) then ((carets_low.f ((rd_T100 x184001 (wrap64 (x16 - 1))).f0) ((rd_T100 x184001 (wrap64 (x16 - 1))).f1)).bind fun t194 => ((carets_high.f ((rd_T100 x184001 (wrap64 (x16 - 1))).f0) ((rd_T100 x184001 (wrap64 (x16 - 1))).f1)).bind fun t195 => ((carets_high.f x186000 x186001).bind fun t196 => (if x186001 ≥ x186000 then (carets_settled.l1 k x54 x55 (wrap64 (x56 + 1)) x184000 (x184001.set ((wrap64 (x16 - 1)) : Int).toNat (⟨t194, mx t195 t196⟩ : S100))) else (carets_settled.l1 k x54 x55 (wrap64 (x56 + 1)) x184000 (x184001.set ((wrap64 (x16 - 1)) : Int).toNat (⟨mx t195 t196, t194⟩ : S100))))))) else (none)) else (none))
end
def carets_settled.f (k : Nat) (a0 : ByteArray) (l1 : List (S100)) : Option (ByteArray × (List (S100))) := carets_settled.l0 k a0 (bytesOf a0) ([] : List (S100)) l1 (l1.length : Int) 0
def carets_settled.T16 : Bool × List (List Nat × List Nat) := (true, [([], []), ([0], [0]), ([1], [1]), ([2], [2]), ([3, 2, 2], [2, 3]), ([2], [2]), ([5, 2], [2, 5]), ([6, 2], [2, 6]), ([7, 2], [2, 7]), ([2], [2]), ([9, 2], [2, 9]), ([8, 10, 2], [2, 8, 10]), ([11, 2], [2, 11]), ([12, 4, 2], [2, 12]), ([4, 13, 2], [2, 4, 13]), ([2, 14], [2, 14])])
def carets_settled.B16 : List Nat := [0, 1, 3, 7, 15, 7, 39, 103, 231, 7, 519, 2023, 4071, 8191, 16383, 32767]
theorem carets_settled.tab16 : rtab .any (opsOf Tryd.f77 16) = carets_settled.T16 := by kernel_rfl
theorem carets_settled.bits16 : waitsOk carets_settled.T16.2 carets_settled.B16 = true := by kernel_rfl
def carets_settled.T17 : Bool × List (List Nat × List Nat) := (true, [([], []), ([], []), ([1], [1]), ([2], [2]), ([3], [3]), ([], []), ([5], [5]), ([4, 6], [4, 6]), ([0, 0, 1, 2, 3, 4, 5, 6, 7], [0]), ([8, 0, 1, 2, 3, 4, 5, 6, 7], [8]), ([9, 7, 7, 0, 1, 2, 3, 4, 5, 6, 7], [7, 9])])
def carets_settled.B17 : List Nat := [0, 0, 2, 6, 14, 0, 32, 126, 255, 511, 1023]
theorem carets_settled.tab17 : rtab .any (opsOf Tryd.f77 17) = carets_settled.T17 := by kernel_rfl
theorem carets_settled.bits17 : waitsOk carets_settled.T17.2 carets_settled.B17 = true := by kernel_rfl
def carets_settled.T19 : Bool × List (List Nat × List Nat) := (true, [([], []), ([0], [0]), ([], []), ([2, 1], [2]), ([], []), ([4, 3], [4]), ([3, 5], [3, 5]), ([1, 5, 0, 1], [1]), ([6, 7, 0, 1, 2, 3, 4, 5, 6, 7], [6])])
def carets_settled.B19 : List Nat := [0, 1, 0, 7, 0, 31, 63, 63, 255]
theorem carets_settled.tab19 : rtab .any (opsOf Tryd.f77 19) = carets_settled.T19 := by kernel_rfl
theorem carets_settled.bits19 : waitsOk carets_settled.T19.2 carets_settled.B19 = true := by kernel_rfl
theorem settled_up {w w1_ W : World} {g : Nat} {s : ByteArray} {l : List S100} (h1 : Below w.heap.size w w1_) (h : IsSet W g s l) (hg : w1_.heap.size ≤ g) (hb : Below w1_.heap.size w1_ W) : ∃ g_ : Nat, Ending.returned (.pointer (some ⟨g, 0, none⟩)) = Ending.returned (.pointer (some ⟨g_, 0, none⟩)) ∧ IsSet W g_ s l ∧ w.heap.size ≤ g_ ∧ Below w.heap.size w W :=
 ⟨g, rfl, h, Nat.le_trans h1.size hg, below_step h1 hb⟩
set_option maxHeartbeats 8000000 in
set_option maxRecDepth 100000 in
theorem carets_settled.calls (k : Nat) (a0 : ByteArray) (A1 : Option Addr) (c1 : Nat) (l1 : List (S100)) (r1 : ByteArray) (r2 : List (S100)) (w : World) (hr1 : Kd.C k100 w A1 l1.length l1) (hc1 : l1.length ≤ c1) (hL : LaidBad w) (hsz : a0.size ≤ 4398046511103) (h : carets_settled.f k a0 l1 = some (r1, r2)) :
  Calls Tryd.prog 77 #[.string a0, .slice A1 l1.length c1] w fun e w' => ∃ g_ : Nat, e = .returned (.pointer (some ⟨g_, 0, none⟩)) ∧ IsSet w' g_ r1 r2 ∧ w.heap.size ≤ g_ ∧ Below w.heap.size w w' := by
 have hu29 := Tryd.underlying100
 have hu100 := Tryd.underlying103
 have hcv := print_bytes (P := Tryd.prog) 9 29 5 Tryd.underlying9 Tryd.underlying29 Tryd.underlying5 a0 w
 have hb1 := bytes_below (Below.refl w.heap.size w) (Nat.le_refl _) 5 a0
 have hrd := bytes_reads w 5 a0 (by omega)
 rw [← bytesOf_length a0] at hcv hrd
 obtain ⟨cp_, hcp_⟩ : ∃ cp_, grownCap w (bytesOf a0).length 0 5 = cp_ := ⟨_, rfl⟩
 have hcp2 : (bytesOf a0).length ≤ cp_ := by rw [← hcp_]; exact grownCap_ge w _ _ _
 rw [hcp_] at hcv
 obtain ⟨w1_, hw1_⟩ : ∃ w1_, Lib.bytesWorld w 5 a0 = w1_ := ⟨_, rfl⟩
 rw [hw1_] at hcv hb1 hrd
 obtain ⟨bw_, hbw_⟩ : ∃ bw_, w.heap.size = bw_ := ⟨_, rfl⟩
 rw [hbw_] at hcv hrd
 have HUP := Aside0.mk hb1
 have HRB := Aside0.mk (Kd.C_of_reads (d := (0 : Int)) (enc := Value.int .u8) (h1 := fun _ => rfl) hrd)
 have HCB := Aside0.mk hcp2
 have HR1 := Aside0.mk (Kd.C_below hr1 hb1)
 have HC1 := Aside0.mk hc1
 have HLB := Aside0.mk (laid_below hL hb1)
 clear hr1 hc1 hb1 hrd hcp2 hcp_ hw1_ hL hbw_
 have HBW := Aside0.mk (Below.refl w1_.heap.size w1_)
 have HW0 := Aside0.mk (Nat.le_refl w1_.heap.size)
 have HB := Aside0.mk (Below.refl w1_.heap.size w1_)
 have H : (carets_settled.l0 k a0 (bytesOf a0) ([] : List (S100)) l1 (l1.length : Int) 0) = some (r1, r2) := h
 clear h
 have H' := Aside0.mk H
 clear H
 go_enter Tryd.func77, Tryd.ntmps77
 go_wp2
 go_loopg [6, 24] k (fun kq v6 v24 w' => ∃ (x6_1 : List (S100)) (x24_1 : Int), v24 = .int .i64 x24_1 ∧ Aside0 (carets_settled.l0 kq a0 (bytesOf a0) x6_1 l1 (l1.length : Int) x24_1 = some (r1, r2)) ∧ Aside0 (kq ≤ k) ∧ Aside0 (Kd.R k100 100 w' w1_.heap.size (fun _ => True) v6 x6_1) ∧ Aside0 (Below w1_.heap.size w1_ w'))
 case atStart => exact ⟨(([] : List (S100))), (0), (by first | rfl | (simp; done) | (simp [*]; done)), H', ⟨Nat.le_refl _⟩, ⟨by first | exact Kd.R_nil _ _ _ _ _ | exact Kd.N_nil _ _ _ _ _ | exact Kd.V_nil _ _ _ _ _ | exact Kd.Q_nil _ _ _ _ _ | exact Kd.S_nil _ _ _ _ _⟩, ⟨by repeat (first | (with_reducible first | exact HB.out | apply below_alloc | apply pw_below_drewN | apply below_drew1) | exact HB.out)⟩⟩
 case round =>
  clear H'
  try clear c1
  try clear p2
  obtain ⟨x6_1, x24_1, rfl, HA, HK1, HO_6, HB⟩ := hrel
  cases gk with
  | zero => exact absurd HA.out (by simp [carets_settled.l0])
  | succ k1 =>
   have H := HA.out
   clear HA
   simp only [carets_settled.l0] at H
   by_cases c3 : x24_1 < (l1.length : Int)
   ·rw [if_pos c3] at H
    have c3b0 : decide (x24_1 < (l1.length : Int)) = true := decide_eq_true c3
    have c3b0z := c3b0
    (try simp only [hl54_2] at c3b0z)
    clear c3
    by_cases c4 : 0 ≤ x24_1
    ·rw [if_pos c4] at H
     have c4b0 : decide (0 ≤ x24_1) = true := decide_eq_true c4
     clear c4
     by_cases c5 : x24_1 < (l1.length : Int)
     ·rw [if_pos c5] at H
      have c5b0 : decide (x24_1 < (l1.length : Int)) = true := decide_eq_true c5
      have c5b0z := c5b0
      (try simp only [hl54_2] at c5b0z)
      clear c5
      replace H := Option.bind_eq_some_iff.mp H
      obtain ⟨⟨t175, t176⟩, A60, H⟩ := H
      replace H : ((step_Floor.f k1 (bytesOf a0) ((rd_T100 l1 x24_1).f1)).bind fun bt177 => (if x6_1.length < 8796093022208 then (carets_settled.l0 k1 a0 (bytesOf a0) (x6_1 ++ [(⟨t175, bt177.1⟩ : S100)]) l1 (l1.length : Int) (wrap64 (x24_1 + 1))) else (none))) = some (r1, r2) := H
      have A6 := Aside0.mk A60
      clear A60
      replace H := Option.bind_eq_some_iff.mp H
      obtain ⟨⟨t177, t178⟩, A70, H⟩ := H
      replace H : (if x6_1.length < 8796093022208 then (carets_settled.l0 k1 a0 (bytesOf a0) (x6_1 ++ [(⟨t175, t177⟩ : S100)]) l1 (l1.length : Int) (wrap64 (x24_1 + 1))) else (none)) = some (r1, r2) := H
      have A7 := Aside0.mk A70
      clear A70
      by_cases c8 : x6_1.length < 8796093022208
      ·rw [if_pos c8] at H
       have LMc8 := Aside0.mk c8
       clear c8
       obtain ⟨y179, hy179⟩ : ∃ y_ : List (S100), y_ = (x6_1 ++ [(⟨t175, t177⟩ : S100)]) := ⟨_, rfl⟩
       replace H : (carets_settled.l0 k1 a0 (bytesOf a0) y179 l1 (l1.length : Int) (wrap64 (x24_1 + 1))) = some (r1, r2) := by first | (rw [hy179]; with_reducible exact H) | (have H2_ := (Option.bind_some _ _).symm.trans H; rw [hy179]; with_reducible exact H2_) | (have H2_ := (Option.bind_some _ _).symm.trans H; with_reducible exact H2_) | with_reducible exact H | (rw [hy179]; exact H) | exact H
       have Ny179 := Aside0.mk hy179
       clear hy179
       have H' := Aside0.mk H
       clear H
       have p173 : 0 ≤ (x24_1 : Int) := of_decide_eq_true (by first | (with_reducible assumption) | assumption)
       have q173 : x24_1 < (l1.length : Int) := of_decide_eq_true (by first | (with_reducible assumption) | assumption)
       obtain ⟨ad173, e173, hx173_0, hx173_1⟩ := at_T100 HR1.out x24_1 p173 q173
       cases e173
       replace hx173_0 := pw_cell_below HB.out hx173_0
       replace hx173_1 := pw_cell_below HB.out hx173_1
       replace p173 := eq_true p173
       replace q173 := eq_true q173
       go_wp2_with (first | ((with_reducible refine gate_dst (N := 8) rfl ?_); refine box_event ?hg (N := 8) ?hd (cs := #[.int .i64 0, .int .i64 0]) (t := 100) ?hr ?_; (case hd => rfl); (case hg => rfl); (case hr => first | (go_simp; done) | (go_simp; rfl)); intro gb174 hg w9 hbox hb; have n0_ := Aside0.mk (Kd.R_below (Kd.R_elderB (by (with_reducible repeat (first | apply Kd.R_alloc | apply Kd.R_drewN | apply Kd.R_drew)); exact HO_6.out) gb174 (Nat.le_of_eq hg.symm)) hb); have n1_ := Aside0.mk (below_step HB.out hb); have n2_ := Aside0.mk (below_step (by repeat (first | (with_reducible first | exact HB.out | apply below_alloc | apply pw_below_drewN | apply below_drew1) | exact HB.out)) hb); have n3_ := Aside0.mk (hbox); have n4_ := Aside0.mk ((by rw [hg]; exact (below_size (by repeat (first | (with_reducible first | exact HB.out | apply below_alloc | apply pw_below_drewN | apply below_drew1) | exact HB.out))) : w1_.heap.size ≤ gb174)); have n5_ := Aside0.mk ((Nat.le_trans HW0.out (by rw [hg]; exact (below_size (by repeat (first | (with_reducible first | exact HB.out | apply below_alloc | apply pw_below_drewN | apply below_drew1) | exact HB.out))) : w1_.heap.size ≤ gb174) : w1_.heap.size ≤ gb174)); clear HO_6; clear HBW; clear HB; have HO_6 := n0_; have HBW := n1_; have HB := n2_; have BK174 := n3_; have GW174 := n4_; have GE174 := n5_; clear n0_ n1_ n2_ n3_ n4_ n5_; clear hb hbox hg; have hcz10_0 : w9.cell? ⟨gb174, 0, none⟩ = some (.int .i64 0) := (blk_cell BK174.out 0).trans rfl; have hcz10_1 : w9.cell? ⟨gb174, 1, none⟩ = some (.int .i64 0) := (blk_cell BK174.out 1).trans rfl; have hfz10_0 := blk_frozen BK174.out 0; have hfz10_1 := blk_frozen BK174.out 1) | ((with_reducible refine gate_callee (f := 67) rfl ?_); refine goesL_ (some 32) rfl rfl Tryd.func67 (by kernel_rfl) rfl #[.slice (some ⟨bw_, 0, none⟩) (bytesOf a0).length cp_, .int .i64 ((rd_T100 l1 x24_1).f0)] rfl (by (try simp only [List.map_toArray, List.map_cons, List.map_nil]); first | done | rfl | (simp only [List.length_drop, List.length_take]; rfl)) ?_; (with_reducible refine (step_Floor.calls k1 _ _ (bytesOf a0) ((rd_T100 l1 x24_1).f0) t175 t176 _ ?side1 ?side2 ?side3 A6.out).mono ?_); (case side1 => exact Kd.C_below HRB.out (by repeat (first | (with_reducible first | exact HB.out | apply below_alloc | apply pw_below_drewN | apply below_drew1 | refine below_set ?_ GE174.out) | exact HB.out))); (case side2 => exact HCB.out); (case side3 => exact laid_below HLB.out (by repeat (first | (with_reducible first | exact HB.out | apply below_alloc | apply pw_below_drewN | apply below_drew1 | refine below_set ?_ GE174.out) | exact HB.out))); rintro e w11 ⟨rfl, hb⟩; refine ⟨_, rfl, ?_⟩; have n0_ := Aside0.mk (Kd.R_below (by (with_reducible repeat (first | apply Kd.R_alloc | apply Kd.R_drewN | apply Kd.R_drew)); exact (Kd.R_mono (Kd.R_far (p := ⟨gb174, 1, none⟩) (Kd.R_far (p := ⟨gb174, 0, none⟩) (Kd.R_mono HO_6.out (fun k_ hk => (⟨hk, hk.2⟩ : _ ∧ k_ ≠ gb174))) (fun _ hk => hk.2) (.int .i64 ((rd_T100 l1 x24_1).f0))) (fun _ hk => hk.2) (.int .i64 ((rd_T100 l1 x24_1).f1))) (fun _ h_ => h_.1))) hb); have n1_ := Aside0.mk (blk_below (g := gb174) (o := .cells #[.int .i64 ((rd_T100 l1 x24_1).f0), .int .i64 ((rd_T100 l1 x24_1).f1)] 100 (0, 0)) (by (with_reducible repeat (first | refine blk_drewN ?_ _ | refine blk_drew ?_ | refine blk_alloc ?_ _)); refine blk_put (cs := #[.int .i64 ((rd_T100 l1 x24_1).f0), .int .i64 0]) ?_ 1 _ rfl; (with_reducible repeat (first | refine blk_drewN ?_ _ | refine blk_drew ?_ | refine blk_alloc ?_ _)); refine blk_put (cs := #[.int .i64 0, .int .i64 0]) ?_ 0 _ rfl; (with_reducible repeat (first | refine blk_drewN ?_ _ | refine blk_drew ?_ | refine blk_alloc ?_ _)); exact BK174.out) hb); have n2_ := Aside0.mk (below_step (by repeat (first | (with_reducible first | exact HB.out | apply below_alloc | apply pw_below_drewN | apply below_drew1 | refine below_set ?_ GE174.out) | exact HB.out)) hb); clear HO_6; clear BK174; clear HB; have HO_6 := n0_; have BK174 := n1_; have HB := n2_; clear n0_ n1_ n2_; (try clear hb); (try clear hb2); (try clear hk); (try clear hi); have hcz12_0 : w11.cell? ⟨gb174, 0, none⟩ = some (.int .i64 ((rd_T100 l1 x24_1).f0)) := (blk_cell BK174.out 0).trans rfl; have hcz12_1 : w11.cell? ⟨gb174, 1, none⟩ = some (.int .i64 ((rd_T100 l1 x24_1).f1)) := (blk_cell BK174.out 1).trans rfl; have hfz12_0 := blk_frozen BK174.out 0; have hfz12_1 := blk_frozen BK174.out 1) | ((with_reducible refine gate_callee (f := 67) rfl ?_); refine goesL_ (some 39) rfl rfl Tryd.func67 (by kernel_rfl) rfl #[.slice (some ⟨bw_, 0, none⟩) (bytesOf a0).length cp_, .int .i64 ((rd_T100 l1 x24_1).f1)] rfl (by (try simp only [List.map_toArray, List.map_cons, List.map_nil]); first | done | rfl | (simp only [List.length_drop, List.length_take]; rfl)) ?_; (with_reducible refine (step_Floor.calls k1 _ _ (bytesOf a0) ((rd_T100 l1 x24_1).f1) t177 t178 _ ?side1 ?side2 ?side3 A7.out).mono ?_); (case side1 => exact Kd.C_below HRB.out (by repeat (first | (with_reducible first | exact HB.out | apply below_alloc | apply pw_below_drewN | apply below_drew1 | refine below_set ?_ GE174.out) | exact HB.out))); (case side2 => exact HCB.out); (case side3 => exact laid_below HLB.out (by repeat (first | (with_reducible first | exact HB.out | apply below_alloc | apply pw_below_drewN | apply below_drew1 | refine below_set ?_ GE174.out) | exact HB.out))); rintro e w13 ⟨rfl, hb⟩; refine ⟨_, rfl, ?_⟩; have n0_ := Aside0.mk (Kd.R_below (by (with_reducible repeat (first | apply Kd.R_alloc | apply Kd.R_drewN | apply Kd.R_drew)); exact HO_6.out) hb); have n1_ := Aside0.mk (blk_below (g := gb174) (o := .cells #[.int .i64 ((rd_T100 l1 x24_1).f0), .int .i64 ((rd_T100 l1 x24_1).f1)] 100 (0, 0)) (by (with_reducible repeat (first | refine blk_drewN ?_ _ | refine blk_drew ?_ | refine blk_alloc ?_ _)); exact BK174.out) hb); have n2_ := Aside0.mk (below_step (by repeat (first | (with_reducible first | exact HB.out | apply below_alloc | apply pw_below_drewN | apply below_drew1 | refine below_set ?_ GE174.out) | exact HB.out)) hb); clear HO_6; clear BK174; clear HB; have HO_6 := n0_; have BK174 := n1_; have HB := n2_; clear n0_ n1_ n2_; (try clear hb); (try clear hb2); (try clear hk); (try clear hi)) | ((with_reducible refine gate_builtin (b := .append) (xs := #[.tmp 42, .tmp 46]) rfl ?_); at_builtin; refine Kd.R_append k100 (w0 := w1_) w1_.heap.size rfl (.tmp 42) (.tmp 46) 62 100 (.agg #[(.int .i64 0), (.int .i64 0)]) 16 rfl Tryd.underlying62 info100 rfl (by decide) (by omega) u6 x6_1 (⟨t175, t177⟩ : S100) [.int .i64 t175, .int .i64 t177] (fun k_ => k_ ≠ gb174) (fun _ => False) rfl rfl ?aP (fun _ hk => hk.elim) ?aF ?aO ?aB ?aS ?aL ?_; (case aP => exact k100_mkM _ _ _ (⟨t175, t177⟩ : S100)); (case aB => exact (by repeat (first | (with_reducible first | exact HB.out | apply below_alloc | apply pw_below_drewN | apply below_drew1 | refine below_set ?_ GE174.out) | exact HB.out))); (case aF => exact (fun k_ hk => Kd.freshB (g := gb174) (o := .cells #[.int .i64 ((rd_T100 l1 x24_1).f0), .int .i64 ((rd_T100 l1 x24_1).f1)] 100 (0, 0)) (by (with_reducible repeat (first | refine blk_drewN ?_ _ | refine blk_drew ?_ | refine blk_alloc ?_ _)); exact BK174.out) k_ hk)); (case aO => exact (by (with_reducible repeat (first | apply Kd.R_alloc | apply Kd.R_drewN | apply Kd.R_drew)); exact Kd.R_mono HO_6.out (fun _ hk => hk.2))); (case aS => exact (below_size (by repeat (first | (with_reducible first | exact HB.out | apply below_alloc | apply pw_below_drewN | apply below_drew1 | refine below_set ?_ GW174.out) | exact HB.out)))); (case aL => have := LMc8.out; omega); intro v180 w14 ho hb hg hat; rw [← Ny179.out] at ho; have n0_ := Aside0.mk (blk_grown (g := gb174) (o := .cells #[.int .i64 ((rd_T100 l1 x24_1).f0), .int .i64 ((rd_T100 l1 x24_1).f1)] 100 (0, 0)) (by (with_reducible repeat (first | refine blk_drewN ?_ _ | refine blk_drew ?_ | refine blk_alloc ?_ _)); exact BK174.out) hg (Kd.R_away HO_6.out (fun _ hk => hk.2))); have n1_ := Aside0.mk (hb); have n2_ := Aside0.mk (ho); clear BK174; clear HB; clear HO_6; have BK174 := n0_; have HB := n1_; have HO181 := n2_; clear n0_ n1_ n2_; clear ho hb hg hat))
       go_roundg k1
       case measure => have := HK1.out; omega
       case rel => exact ⟨(y179), (wrap64 (x24_1 + 1)), (by first | rfl | (simp; done) | (simp [*]; done)), H', ⟨by have := HK1.out; omega⟩, ⟨by (with_reducible repeat (first | apply Kd.R_alloc | apply Kd.R_drewN | apply Kd.R_drew)); exact Kd.R_mono HO181.out (fun _ hk => trivial)⟩, ⟨by repeat (first | (with_reducible first | exact HB.out | apply below_alloc | apply pw_below_drewN | apply below_drew1 | refine below_set ?_ GE174.out) | exact HB.out)⟩⟩
      ·rw [if_neg c8] at H
       exact absurd H (by simp)
     ·rw [if_neg c5] at H
      exact absurd H (by simp)
    ·rw [if_neg c4] at H
     exact absurd H (by simp)
   ·rw [if_neg c3] at H
    have c3b0 : decide (x24_1 < (l1.length : Int)) = false := decide_eq_false c3
    have c3b0z := c3b0
    (try simp only [hl54_2] at c3b0z)
    clear c3
    replace H := Option.bind_eq_some_iff.mp H
    obtain ⟨t182, A150, H⟩ := H
    replace H : (carets_settled.l1 k1 t182 (x6_1.length : Int) 0 a0 ([] : List (S100))) = some (r1, r2) := H
    have A15 := Aside0.mk A150
    clear A150
    have H' := Aside0.mk H
    clear H
    obtain ⟨Ao16, co16, eo16⟩ := Kd.R_slice HO_6.out
    subst eo16
    go_wp2_with (first | ((with_reducible refine gate_callee (f := 88) rfl ?_); refine goesL_ (some 50) rfl rfl Tryd.func88 (by kernel_rfl) rfl #[.slice Ao16 x6_1.length co16, .func (.func 89) #[] #[]] rfl (by (try simp only [List.map_toArray, List.map_cons, List.map_nil]); first | done | rfl | (simp only [List.length_drop, List.length_take]; rfl)) ?_; (with_reducible refine (api_Caret_88.calls k1 (fun k_ => some k_ = (.slice Ao16 x6_1.length co16 : Value).ownBlock) (.slice Ao16 x6_1.length co16) x6_1 t182 w1_ _ ?side1 ?side2 A15.out).mono ?_); (case side1 => repeat (first | (with_reducible first | exact HB.out | apply below_alloc | apply pw_below_drewN | apply below_drew1) | exact HB.out)); (case side2 => exact Kd.R_tight rfl HO_6.out); rintro e w17 ⟨rfl, hy0, hb, hkp⟩; refine ⟨_, rfl, ?_⟩; have n0_ := Aside0.mk (Kd.R_reok rfl hy0 (fun k_ e_ => HO_6.out.1 k_ e_)); have n1_ := Aside0.mk (hb); clear HO_6; clear HB; have HO_6 := n0_; have HB := n1_; clear n0_ n1_; (try clear hb); (try clear hkp); (try clear hy0)) | ((with_reducible refine gate_dst (N := 53) rfl ?_); refine box_event ?hg (N := 53) ?hd (cs := #[.string a0, .slice none 0 0]) (t := 103) ?hr ?_; (case hd => rfl); (case hg => rfl); (case hr => first | (go_simp; done) | (go_simp; rfl)); intro gb183 hg w18 hbox hb; have n0_ := Aside0.mk (Kd.R_below (by (with_reducible repeat (first | apply Kd.R_alloc | apply Kd.R_drewN | apply Kd.R_drew)); exact HO_6.out) hb); have n1_ := Aside0.mk (below_step HB.out hb); have n2_ := Aside0.mk (below_step (by repeat (first | (with_reducible first | exact HB.out | apply below_alloc | apply pw_below_drewN | apply below_drew1) | exact HB.out)) hb); have n3_ := Aside0.mk (hbox); have n4_ := Aside0.mk ((by rw [hg]; exact (below_size (by repeat (first | (with_reducible first | exact HB.out | apply below_alloc | apply pw_below_drewN | apply below_drew1) | exact HB.out))) : w1_.heap.size ≤ gb183)); have n5_ := Aside0.mk ((Nat.le_trans HW0.out (by rw [hg]; exact (below_size (by repeat (first | (with_reducible first | exact HB.out | apply below_alloc | apply pw_below_drewN | apply below_drew1) | exact HB.out))) : w1_.heap.size ≤ gb183) : w1_.heap.size ≤ gb183)); clear HO_6; clear HBW; clear HB; have HO_6 := n0_; have HBW := n1_; have HB := n2_; have BK183 := n3_; have GW183 := n4_; have GE183 := n5_; clear n0_ n1_ n2_ n3_ n4_ n5_; clear hb hbox hg))
    (try simp only [Act.put, List.setIfInBounds_toArray, List.set_cons_zero, List.set_cons_succ])
    go_loopg [56] k1 (fun kq v56 w' => ∃ (x54_2 : List (S100)) (x56_2 : Int) (x184001_2 : List (S100)) (u184001 : Value), v56 = .int .i64 x56_2 ∧ Aside0 (carets_settled.l1 kq x54_2 (x6_1.length : Int) x56_2 a0 x184001_2 = some (r1, r2)) ∧ Aside0 (kq ≤ k1) ∧ Aside0 (Kd.R k100 100 w' w1_.heap.size (fun k_ => some k_ ≠ (u184001 : Value).ownBlock) (.slice Ao16 x6_1.length co16) x54_2) ∧ Aside0 (Kd.R k100 100 w' w1_.heap.size (fun k_ => some k_ ≠ ((.slice Ao16 x6_1.length co16) : Value).ownBlock) u184001 x184001_2) ∧ Aside0 (w'.heap[gb183]? = some (.cells #[.string a0, u184001] 103 (0, 0))) ∧ Aside0 (Below w1_.heap.size w1_ w'))
    case atStart => exact ⟨(t182), (0), (([] : List (S100))), (.slice none 0 0), (by first | rfl | (simp; done) | (simp [*]; done)), H', ⟨Nat.le_refl _⟩, ⟨by (with_reducible repeat (first | apply Kd.R_alloc | apply Kd.R_drewN | apply Kd.R_drew)); exact Kd.R_mono HO_6.out (fun _ hk => (by simp [Value.ownBlock]))⟩, ⟨by first | exact Kd.R_nil _ _ _ _ _ | exact Kd.N_nil _ _ _ _ _ | exact Kd.V_nil _ _ _ _ _ | exact Kd.Q_nil _ _ _ _ _ | exact Kd.S_nil _ _ _ _ _⟩, ⟨by (with_reducible repeat (first | refine blk_drewN ?_ _ | refine blk_drew ?_ | refine blk_alloc ?_ _)); exact BK183.out⟩, ⟨by repeat (first | (with_reducible first | exact HB.out | apply below_alloc | apply pw_below_drewN | apply below_drew1 | refine below_set ?_ GE183.out) | exact HB.out)⟩⟩
    case round =>
     clear H'
     try clear c1
     try clear p1
     try clear q1
     try clear hx1
     try clear p2
     try clear c3
     try clear c3b0
     try clear c4
     try clear c4b0
     try clear c5
     try clear c5b0
     try clear c6
     try clear p6
     try clear c7
     try clear c8
     try clear p17
     try clear q17
     try clear hx17
     try clear hcz10_0
     try clear hcz10_1
     try clear hcz12_0
     try clear hcz12_1
     try clear hfz10_0
     try clear hfz10_1
     try clear hfz12_0
     try clear hfz12_1
     try clear hx173_0
     try clear hx173_1
     try clear p173
     try clear p2
     try clear q173
     obtain ⟨x54_2, x56_2, x184001_2, u184001, rfl, HA, HK2, HO_54, HO_184001, BK183, HB⟩ := hrel
     have hl54_2 := (Kd.R_reads' HO_54.out).1
     rw [hl54_2] at HO_54
     (try simp only [hl54_2])
     (try simp only [hl54_2] at BK183)
     (try simp only [hl54_2] at HO_184001)
     cases gk with
     | zero => exact absurd HA.out (by simp [carets_settled.l1])
     | succ k2 =>
      have H := HA.out
      clear HA
      simp only [carets_settled.l1] at H
      by_cases c19 : x56_2 < (x6_1.length : Int)
      ·rw [if_pos c19] at H
       have c19b0 : decide (x56_2 < (x6_1.length : Int)) = true := decide_eq_true c19
       have c19b0z := c19b0
       (try simp only [hl54_2] at c19b0z)
       clear c19
       by_cases c20 : 0 ≤ x56_2
       ·rw [if_pos c20] at H
        have c20b0 : decide (0 ≤ x56_2) = true := decide_eq_true c20
        clear c20
        by_cases c21 : x56_2 < (x54_2.length : Int)
        ·rw [if_pos c21] at H
         have c21b0 : decide (x56_2 < (x54_2.length : Int)) = true := decide_eq_true c21
         have c21b0z := c21b0
         (try simp only [hl54_2] at c21b0z)
         clear c21
         have HC22 := Aside0.mk H
         clear H
         have p184 : 0 ≤ (x56_2 : Int) := of_decide_eq_true (by first | (with_reducible assumption) | assumption)
         have q184 : x56_2 < (x54_2.length : Int) := of_decide_eq_true (by first | (with_reducible assumption) | assumption)
         obtain ⟨ad184, e184, hx184_0, hx184_1⟩ := at_T100 (Kd.R_reads' HO_54.out).2.2 x56_2 p184 q184
         cases e184
         replace p184 := eq_true p184
         replace q184 := eq_true q184
         go_upto_region 16 with (first | ((with_reducible refine gate_dst (N := 15) rfl ?_); refine box_event ?hg (N := 15) ?hd (cs := #[.int .i64 0, .int .i64 0]) (t := 100) ?hr ?_; (case hd => rfl); (case hg => rfl); (case hr => first | (go_simp; done) | (go_simp; rfl)); intro gb185 hg w23 hbox hb; have n0_ := Aside0.mk (Kd.R_below (Kd.R_elderB (by (with_reducible repeat (first | apply Kd.R_alloc | apply Kd.R_drewN | apply Kd.R_drew)); exact HO_54.out) gb185 (Nat.le_of_eq hg.symm)) hb); have n1_ := Aside0.mk (Kd.R_below (Kd.R_elderB (by (with_reducible repeat (first | apply Kd.R_alloc | apply Kd.R_drewN | apply Kd.R_drew)); exact HO_184001.out) gb185 (Nat.le_of_eq hg.symm)) hb); have n2_ := Aside0.mk (blk_below (g := gb183) (o := .cells #[.string a0, u184001] 103 (0, 0)) (by (with_reducible repeat (first | refine blk_drewN ?_ _ | refine blk_drew ?_ | refine blk_alloc ?_ _)); exact BK183.out) hb); have n3_ := Aside0.mk (below_step HB.out hb); have n4_ := Aside0.mk (below_step (by repeat (first | (with_reducible first | exact HB.out | apply below_alloc | apply pw_below_drewN | apply below_drew1 | refine below_set ?_ GE183.out) | exact HB.out)) hb); have n5_ := Aside0.mk (hbox); have n6_ := Aside0.mk ((by rw [hg]; exact (below_size (by repeat (first | (with_reducible first | exact HB.out | apply below_alloc | apply pw_below_drewN | apply below_drew1 | refine below_set ?_ GW183.out) | exact HB.out))) : w1_.heap.size ≤ gb185)); have n7_ := Aside0.mk ((Nat.le_trans HW0.out (by rw [hg]; exact (below_size (by repeat (first | (with_reducible first | exact HB.out | apply below_alloc | apply pw_below_drewN | apply below_drew1 | refine below_set ?_ GW183.out) | exact HB.out))) : w1_.heap.size ≤ gb185) : w1_.heap.size ≤ gb185)); have n8_ := Aside0.mk ((by rw [hg]; exact Nat.ne_of_lt (blk_lt (g := gb183) (o := .cells #[.string a0, u184001] 103 (0, 0)) (by (with_reducible repeat (first | refine blk_drewN ?_ _ | refine blk_drew ?_ | refine blk_alloc ?_ _)); exact BK183.out)) : gb183 ≠ gb185)); have n9_ := Aside0.mk ((by rw [hg]; exact Nat.ne_of_gt (blk_lt (g := gb183) (o := .cells #[.string a0, u184001] 103 (0, 0)) (by (with_reducible repeat (first | refine blk_drewN ?_ _ | refine blk_drew ?_ | refine blk_alloc ?_ _)); exact BK183.out)) : gb185 ≠ gb183)); clear HO_54; clear HO_184001; clear BK183; clear HBW; clear HB; have HO_54 := n0_; have HO_184001 := n1_; have BK183 := n2_; have HBW := n3_; have HB := n4_; have BK185 := n5_; have GW185 := n6_; have GE185 := n7_; have NB183_185 := n8_; have NB185_183 := n9_; clear n0_ n1_ n2_ n3_ n4_ n5_ n6_ n7_ n8_ n9_; clear hb hbox hg; have hnb24 := NB185_183.out; have hnc24 := NB183_185.out; have hcz25_0 : w23.cell? ⟨gb185, 0, none⟩ = some (.int .i64 0) := (blk_cell BK185.out 0).trans rfl; have hcz25_1 : w23.cell? ⟨gb185, 1, none⟩ = some (.int .i64 0) := (blk_cell BK185.out 1).trans rfl; have hfz25_0 := blk_frozen BK185.out 0; have hfz25_1 := blk_frozen BK185.out 1; have hcz26_0 : w23.cell? ⟨gb183, 0, none⟩ = some (.string a0) := (blk_cell BK183.out 0).trans rfl; have hcz26_1 : w23.cell? ⟨gb183, 1, none⟩ = some (u184001) := (blk_cell BK183.out 1).trans rfl; have hfz26_0 := blk_frozen BK183.out 0; have hfz26_1 := blk_frozen BK183.out 1; obtain ⟨Ao27, co27, eo27⟩ := Kd.R_slice HO_184001.out; subst eo27))
         (try simp only [Act.put, List.setIfInBounds_toArray, List.set_cons_zero, List.set_cons_succ])
         go_cut [80] (fun v80 wc => ∃ (kq : Nat) (x80_21 : Bool), v80 = .bool x80_21 ∧ Aside0 (carets_settled.j2 kq (x184001_2.length : Int) x54_2 (x6_1.length : Int) x56_2 x80_21 a0 x184001_2 ((rd_T100 x54_2 x56_2).f0) ((rd_T100 x54_2 x56_2).f1) = some (r1, r2)) ∧ Aside0 (kq ≤ k2) ∧ Aside0 (Kd.R k100 100 wc w1_.heap.size (fun k_ => some k_ ≠ ((.slice Ao27 x184001_2.length co27) : Value).ownBlock ∧ k_ ≠ gb185) (.slice (some ad184) x54_2.length co16) x54_2) ∧ Aside0 (Kd.R k100 100 wc w1_.heap.size (fun k_ => some k_ ≠ ((.slice (some ad184) x54_2.length co16) : Value).ownBlock ∧ k_ ≠ gb185) (.slice Ao27 x184001_2.length co27) x184001_2) ∧ Aside0 (wc.heap[gb183]? = some (.cells #[.string a0, (.slice Ao27 x184001_2.length co27)] 103 (0, 0))) ∧ Aside0 (wc.heap[gb185]? = some (.cells #[.int .i64 ((rd_T100 x54_2 x56_2).f0), .int .i64 ((rd_T100 x54_2 x56_2).f1)] 100 (0, 0))) ∧ Aside0 (Below w1_.heap.size w1_ wc))
         case first =>
          have H := HC22.out
          clear HC22
          by_cases c28 : (x184001_2.length : Int) = 0
          ·rw [if_pos c28] at H
           have c28b0 : ((x184001_2.length : Int) == 0) = true := beq_iff_eq.mpr c28
           have c28b1 : ((x184001_2.length : Int) != 0) = false := bne_eq_false_iff_eq.mpr c28
           clear c28
           (first | rw [c28b0] | (simp only [i64_w, i32_w]; rw [c28b0]) | skip)
           have H' := Aside0.mk H
           clear H
           try go_wp2
           have n0_ : Aside0 (Kd.R k100 100 ((w23.setCell ⟨gb185, 0, none⟩ (.int .i64 ((rd_T100 x54_2 x56_2).f0))).setCell ⟨gb185, 1, none⟩ (.int .i64 ((rd_T100 x54_2 x56_2).f1))) w1_.heap.size (fun k_ => some k_ ≠ (.slice Ao27 x184001_2.length co27 : Value).ownBlock ∧ k_ ≠ gb185) (.slice (some ad184) x54_2.length co16) x54_2) := ⟨by (with_reducible repeat (first | apply Kd.R_alloc | apply Kd.R_drewN | apply Kd.R_drew)); exact Kd.R_mono (Kd.R_far (p := ⟨gb185, 1, none⟩) (Kd.R_far (p := ⟨gb185, 0, none⟩) (Kd.R_mono HO_54.out (fun k_ hk => (⟨hk, hk.2⟩ : _ ∧ k_ ≠ gb185))) (fun _ hk => hk.2) (.int .i64 ((rd_T100 x54_2 x56_2).f0))) (fun _ hk => hk.2) (.int .i64 ((rd_T100 x54_2 x56_2).f1))) (fun _ hk => ⟨hk.1.1, hk.1.2⟩)⟩
           have n1_ : Aside0 (Kd.R k100 100 ((w23.setCell ⟨gb185, 0, none⟩ (.int .i64 ((rd_T100 x54_2 x56_2).f0))).setCell ⟨gb185, 1, none⟩ (.int .i64 ((rd_T100 x54_2 x56_2).f1))) w1_.heap.size (fun k_ => some k_ ≠ (.slice (some ad184) x54_2.length co16 : Value).ownBlock ∧ k_ ≠ gb185) (.slice Ao27 x184001_2.length co27) x184001_2) := ⟨by (with_reducible repeat (first | apply Kd.R_alloc | apply Kd.R_drewN | apply Kd.R_drew)); exact Kd.R_mono (Kd.R_far (p := ⟨gb185, 1, none⟩) (Kd.R_far (p := ⟨gb185, 0, none⟩) (Kd.R_mono HO_184001.out (fun k_ hk => (⟨hk, hk.2⟩ : _ ∧ k_ ≠ gb185))) (fun _ hk => hk.2) (.int .i64 ((rd_T100 x54_2 x56_2).f0))) (fun _ hk => hk.2) (.int .i64 ((rd_T100 x54_2 x56_2).f1))) (fun _ hk => ⟨hk.1.1, hk.1.2⟩)⟩
           have n2_ : Aside0 (((w23.setCell ⟨gb185, 0, none⟩ (.int .i64 ((rd_T100 x54_2 x56_2).f0))).setCell ⟨gb185, 1, none⟩ (.int .i64 ((rd_T100 x54_2 x56_2).f1))).heap[gb183]? = some (.cells #[.string a0, .slice Ao27 x184001_2.length co27] 103 (0, 0))) := ⟨by (with_reducible repeat (first | refine blk_drewN ?_ _ | refine blk_drew ?_ | refine blk_alloc ?_ _)); refine blk_far ?_ NB183_185.out _; (with_reducible repeat (first | refine blk_drewN ?_ _ | refine blk_drew ?_ | refine blk_alloc ?_ _)); refine blk_far ?_ NB183_185.out _; (with_reducible repeat (first | refine blk_drewN ?_ _ | refine blk_drew ?_ | refine blk_alloc ?_ _)); exact BK183.out⟩
           have n3_ : Aside0 (((w23.setCell ⟨gb185, 0, none⟩ (.int .i64 ((rd_T100 x54_2 x56_2).f0))).setCell ⟨gb185, 1, none⟩ (.int .i64 ((rd_T100 x54_2 x56_2).f1))).heap[gb185]? = some (.cells #[.int .i64 ((rd_T100 x54_2 x56_2).f0), .int .i64 ((rd_T100 x54_2 x56_2).f1)] 100 (0, 0))) := ⟨by (with_reducible repeat (first | refine blk_drewN ?_ _ | refine blk_drew ?_ | refine blk_alloc ?_ _)); refine blk_put (cs := #[.int .i64 ((rd_T100 x54_2 x56_2).f0), .int .i64 0]) ?_ 1 _ rfl; (with_reducible repeat (first | refine blk_drewN ?_ _ | refine blk_drew ?_ | refine blk_alloc ?_ _)); refine blk_put (cs := #[.int .i64 0, .int .i64 0]) ?_ 0 _ rfl; (with_reducible repeat (first | refine blk_drewN ?_ _ | refine blk_drew ?_ | refine blk_alloc ?_ _)); exact BK185.out⟩
           have n4_ : Aside0 (Below w1_.heap.size w1_ ((w23.setCell ⟨gb185, 0, none⟩ (.int .i64 ((rd_T100 x54_2 x56_2).f0))).setCell ⟨gb185, 1, none⟩ (.int .i64 ((rd_T100 x54_2 x56_2).f1)))) := ⟨by repeat (first | (with_reducible first | exact HB.out | apply below_alloc | apply pw_below_drewN | apply below_drew1 | refine below_set ?_ GE183.out | refine below_set ?_ GE185.out) | exact HB.out)⟩
           (try clear HO_54)
           (try clear HO_184001)
           (try clear BK183)
           (try clear BK185)
           (try clear HB)
           generalize ((w23.setCell ⟨gb185, 0, none⟩ (.int .i64 ((rd_T100 x54_2 x56_2).f0))).setCell ⟨gb185, 1, none⟩ (.int .i64 ((rd_T100 x54_2 x56_2).f1))) = w29 at n0_ n1_ n2_ n3_ n4_ ⊢
           have HO_54 := n0_
           have HO_184001 := n1_
           have BK183 := n2_
           have BK185 := n3_
           have HB := n4_
           clear n0_ n1_ n2_ n3_ n4_
           have n0_ := Aside0.mk (Kd.R_drew HO_54.out)
           have n1_ := Aside0.mk (Kd.R_drew HO_184001.out)
           have n2_ := Aside0.mk (blk_drew BK183.out)
           have n3_ := Aside0.mk (blk_drew BK185.out)
           have n4_ := Aside0.mk (below_drew1 HB.out)
           clear HO_54 HO_184001 BK183 BK185 HB
           have HO_54 := n0_
           have HO_184001 := n1_
           have BK183 := n2_
           have BK185 := n3_
           have HB := n4_
           clear n0_ n1_ n2_ n3_ n4_
           refine start_ (n := 16) (S := fun w' => True) (ds := []) #[false, false, false, false, false, false, false, false, false, false, false, false, false, false, false, false] (by kernel_rfl) rfl rfl trivial (fun hHeld => ?_); refine with_tabW carets_settled.tab16 carets_settled.bits16 (fun HT_ HW_ => ?_)
           generalize w29.drew = w30 at HO_54 HO_184001 BK183 BK185 HB hHeld ⊢
           refine pure_ (i := 0) (N := some 65) (v := ?_) (a' := ?_) #[true, false, false, false, false, false, false, false, false, false, false, false, false, false, false, false] rfl rfl (any_of HT_.out (by kernel_rfl)) (fun _ _ _ h => h) (Or.inl ⟨by rfl, ?_⟩) ?_ ?_
           rotate_left; ·(intro w'; go_simp; with_reducible rfl)
           rotate_left; ·(simp only [Act.put, List.setIfInBounds_toArray, List.set_cons_zero, List.set_cons_succ, i64_w, i32_w]; rfl)
           refine pure_ (i := 1) (N := some 66) (v := ?_) (a' := ?_) #[true, true, false, false, false, false, false, false, false, false, false, false, false, false, false, false] rfl rfl (any_of HT_.out (by kernel_rfl)) (fun _ _ _ h => h) (Or.inl ⟨by rfl, ?_⟩) ?_ ?_
           rotate_left; ·(intro w'; go_simp; with_reducible rfl)
           rotate_left; ·(simp only [Act.put, List.setIfInBounds_toArray, List.set_cons_zero, List.set_cons_succ, i64_w, i32_w]; rfl)
           refine pure_ (i := 2) (N := some 67) (v := ?_) (a' := ?_) #[true, true, true, false, false, false, false, false, false, false, false, false, false, false, false, false] rfl rfl (any_of HT_.out (by kernel_rfl)) (fun _ _ _ h => h) (Or.inl ⟨by rfl, ?_⟩) ?_ ?_
           rotate_left; ·(intro w'; go_simp; with_reducible rfl)
           rotate_left; ·(simp only [Act.put, List.setIfInBounds_toArray, List.set_cons_zero, List.set_cons_succ, i64_w, i32_w]; rfl)
           refine pure_ (i := 3) (N := some 68) (v := undef) (a' := ?_) #[true, true, true, true, false, false, false, false, false, false, false, false, false, false, false, false] rfl rfl (any_of HT_.out (by kernel_rfl)) (fun _ _ _ h => h) (Or.inr ⟨by rfl, rfl⟩) ?_ ?_
           rotate_left; ·(simp only [Act.put, List.setIfInBounds_toArray, List.set_cons_zero, List.set_cons_succ, i64_w, i32_w]; rfl)
           refine pure_ (i := 4) (N := some 69) (v := undef) (a' := ?_) #[true, true, true, true, true, false, false, false, false, false, false, false, false, false, false, false] rfl rfl (any_of HT_.out (by kernel_rfl)) (fun _ _ _ h => h) (Or.inr ⟨by rfl, rfl⟩) ?_ ?_
           rotate_left; ·(simp only [Act.put, List.setIfInBounds_toArray, List.set_cons_zero, List.set_cons_succ, i64_w, i32_w]; rfl)
           refine pure_ (i := 5) (N := some 70) (v := undef) (a' := ?_) #[true, true, true, true, true, true, false, false, false, false, false, false, false, false, false, false] rfl rfl (any_of HT_.out (by kernel_rfl)) (fun _ _ _ h => h) (Or.inr ⟨by rfl, rfl⟩) ?_ ?_
           rotate_left; ·(simp only [Act.put, List.setIfInBounds_toArray, List.set_cons_zero, List.set_cons_succ, i64_w, i32_w]; rfl)
           refine pure_ (i := 6) (N := some 71) (v := undef) (a' := ?_) #[true, true, true, true, true, true, true, false, false, false, false, false, false, false, false, false] rfl rfl (any_of HT_.out (by kernel_rfl)) (fun _ _ _ h => h) (Or.inr ⟨by rfl, rfl⟩) ?_ ?_
           rotate_left; ·(simp only [Act.put, List.setIfInBounds_toArray, List.set_cons_zero, List.set_cons_succ, i64_w, i32_w]; rfl)
           refine pure_ (i := 7) (N := some 72) (v := undef) (a' := ?_) #[true, true, true, true, true, true, true, true, false, false, false, false, false, false, false, false] rfl rfl (any_of HT_.out (by kernel_rfl)) (fun _ _ _ h => h) (Or.inr ⟨by rfl, rfl⟩) ?_ ?_
           rotate_left; ·(simp only [Act.put, List.setIfInBounds_toArray, List.set_cons_zero, List.set_cons_succ, i64_w, i32_w]; rfl)
           refine pure_ (i := 8) (N := some 73) (v := undef) (a' := ?_) #[true, true, true, true, true, true, true, true, true, false, false, false, false, false, false, false] rfl rfl (any_of HT_.out (by kernel_rfl)) (fun _ _ _ h => h) (Or.inr ⟨by rfl, rfl⟩) ?_ ?_
           rotate_left; ·(simp only [Act.put, List.setIfInBounds_toArray, List.set_cons_zero, List.set_cons_succ, i64_w, i32_w]; rfl)
           refine pure_ (i := 9) (N := some 74) (v := undef) (a' := ?_) #[true, true, true, true, true, true, true, true, true, true, false, false, false, false, false, false] rfl rfl (any_of HT_.out (by kernel_rfl)) (fun _ _ _ h => h) (Or.inr ⟨by rfl, rfl⟩) ?_ ?_
           rotate_left; ·(simp only [Act.put, List.setIfInBounds_toArray, List.set_cons_zero, List.set_cons_succ, i64_w, i32_w]; rfl)
           refine pure_ (i := 10) (N := some 75) (v := undef) (a' := ?_) #[true, true, true, true, true, true, true, true, true, true, true, false, false, false, false, false] rfl rfl (any_of HT_.out (by kernel_rfl)) (fun _ _ _ h => h) (Or.inr ⟨by rfl, rfl⟩) ?_ ?_
           rotate_left; ·(simp only [Act.put, List.setIfInBounds_toArray, List.set_cons_zero, List.set_cons_succ, i64_w, i32_w]; rfl)
           refine pure_ (i := 11) (N := some 76) (v := undef) (a' := ?_) #[true, true, true, true, true, true, true, true, true, true, true, true, false, false, false, false] rfl rfl (any_of HT_.out (by kernel_rfl)) (fun _ _ _ h => h) (Or.inr ⟨by rfl, rfl⟩) ?_ ?_
           rotate_left; ·(simp only [Act.put, List.setIfInBounds_toArray, List.set_cons_zero, List.set_cons_succ, i64_w, i32_w]; rfl)
           refine pure_ (i := 12) (N := some 77) (v := undef) (a' := ?_) #[true, true, true, true, true, true, true, true, true, true, true, true, true, false, false, false] rfl rfl (any_of HT_.out (by kernel_rfl)) (fun _ _ _ h => h) (Or.inr ⟨by rfl, rfl⟩) ?_ ?_
           rotate_left; ·(simp only [Act.put, List.setIfInBounds_toArray, List.set_cons_zero, List.set_cons_succ, i64_w, i32_w]; rfl)
           refine pure_ (i := 13) (N := some 78) (v := undef) (a' := ?_) #[true, true, true, true, true, true, true, true, true, true, true, true, true, true, false, false] rfl rfl (any_of HT_.out (by kernel_rfl)) (fun _ _ _ h => h) (Or.inr ⟨by rfl, rfl⟩) ?_ ?_
           rotate_left; ·(simp only [Act.put, List.setIfInBounds_toArray, List.set_cons_zero, List.set_cons_succ, i64_w, i32_w]; rfl)
           refine pure_ (i := 14) (N := some 79) (v := undef) (a' := ?_) #[true, true, true, true, true, true, true, true, true, true, true, true, true, true, true, false] rfl rfl (any_of HT_.out (by kernel_rfl)) (fun _ _ _ h => h) (Or.inr ⟨by rfl, rfl⟩) ?_ ?_
           rotate_left; ·(simp only [Act.put, List.setIfInBounds_toArray, List.set_cons_zero, List.set_cons_succ, i64_w, i32_w]; rfl)
           refine pure_ (i := 15) (N := some 80) (v := ?_) (a' := ?_) #[true, true, true, true, true, true, true, true, true, true, true, true, true, true, true, true] rfl rfl (any_of HT_.out (by kernel_rfl)) (fun _ _ _ h => h) (Or.inl ⟨by rfl, ?_⟩) ?_ ?_
           rotate_left; ·(intro w'; go_simp; with_reducible rfl)
           rotate_left; ·(simp only [Act.put, List.setIfInBounds_toArray, List.set_cons_zero, List.set_cons_succ, i64_w, i32_w]; rfl)
           refine done_ (done_of HT_.out (by kernel_rfl)) ?_
           try go_wp2
           go_meet
           case rel => exact ⟨_, (true), (by first | rfl | (simp; done) | (simp [*]; done)), H', ⟨by have := HK1.out; have := HK2.out; first | omega | exact Nat.le_refl _⟩, ⟨by (try simp only [hl54_2]); (with_reducible repeat (first | apply Kd.R_alloc | apply Kd.R_drewN | apply Kd.R_drew)); exact HO_54.out⟩, ⟨by (try simp only [hl54_2]); (with_reducible repeat (first | apply Kd.R_alloc | apply Kd.R_drewN | apply Kd.R_drew)); exact HO_184001.out⟩, ⟨by (try simp only [hl54_2]); (with_reducible repeat (first | refine blk_drewN ?_ _ | refine blk_drew ?_ | refine blk_alloc ?_ _)); exact BK183.out⟩, ⟨by (try simp only [hl54_2]); (with_reducible repeat (first | refine blk_drewN ?_ _ | refine blk_drew ?_ | refine blk_alloc ?_ _)); exact BK185.out⟩, ⟨by repeat (first | (with_reducible first | exact HB.out | apply below_alloc | apply pw_below_drewN | apply below_drew1 | refine below_set ?_ GE183.out | refine below_set ?_ GE185.out) | exact HB.out)⟩⟩
          ·rw [if_neg c28] at H
           have c28b0 : ((x184001_2.length : Int) == 0) = false := beq_eq_false_iff_ne.mpr c28
           have c28b1 : ((x184001_2.length : Int) != 0) = true := bne_iff_ne.mpr c28
           have c28b2 : ¬ (x184001_2 = []) := fun h_ => c28 (by rw [h_]; rfl)
           (first | rw [c28b0] | (simp only [i64_w, i32_w]; rw [c28b0]) | skip)
           replace H := Option.bind_eq_some_iff.mp H
           obtain ⟨t186, A310, H⟩ := H
           replace H : (if 0 ≤ (wrap64 ((x184001_2.length : Int) - 1)) then (if (wrap64 ((x184001_2.length : Int) - 1)) < (x184001_2.length : Int) then ((carets_high.f ((rd_T100 x184001_2 (wrap64 ((x184001_2.length : Int) - 1))).f0) ((rd_T100 x184001_2 (wrap64 ((x184001_2.length : Int) - 1))).f1)).bind fun t188 => (carets_settled.j2 k2 (x184001_2.length : Int) x54_2 (x6_1.length : Int) x56_2 (decide (t186 > t188)) a0 x184001_2 ((rd_T100 x54_2 x56_2).f0) ((rd_T100 x54_2 x56_2).f1))) else (none)) else (none)) = some (r1, r2) := H
           have A31 := Aside0.mk A310
           clear A310
           by_cases c32 : 0 ≤ (wrap64 ((x184001_2.length : Int) - 1))
           ·rw [if_pos c32] at H
            have c32b0 : decide (0 ≤ (wrap64 ((x184001_2.length : Int) - 1))) = true := decide_eq_true c32
            have c32b0z := c32b0
            (try simp only [hl54_2] at c32b0z)
            clear c32
            by_cases c33 : (wrap64 ((x184001_2.length : Int) - 1)) < (x184001_2.length : Int)
            ·rw [if_pos c33] at H
             have c33b0 : decide ((wrap64 ((x184001_2.length : Int) - 1)) < (x184001_2.length : Int)) = true := decide_eq_true c33
             have c33b0z := c33b0
             (try simp only [hl54_2] at c33b0z)
             clear c33
             replace H := Option.bind_eq_some_iff.mp H
             obtain ⟨t188, A340, H⟩ := H
             replace H : (carets_settled.j2 k2 (x184001_2.length : Int) x54_2 (x6_1.length : Int) x56_2 (decide (t186 > t188)) a0 x184001_2 ((rd_T100 x54_2 x56_2).f0) ((rd_T100 x54_2 x56_2).f1)) = some (r1, r2) := H
             have A34 := Aside0.mk A340
             clear A340
             have H' := Aside0.mk H
             clear H
             try go_wp2
             have n0_ : Aside0 (Kd.R k100 100 ((w23.setCell ⟨gb185, 0, none⟩ (.int .i64 ((rd_T100 x54_2 x56_2).f0))).setCell ⟨gb185, 1, none⟩ (.int .i64 ((rd_T100 x54_2 x56_2).f1))) w1_.heap.size (fun k_ => some k_ ≠ (.slice Ao27 x184001_2.length co27 : Value).ownBlock ∧ k_ ≠ gb185) (.slice (some ad184) x54_2.length co16) x54_2) := ⟨by (with_reducible repeat (first | apply Kd.R_alloc | apply Kd.R_drewN | apply Kd.R_drew)); exact Kd.R_mono (Kd.R_far (p := ⟨gb185, 1, none⟩) (Kd.R_far (p := ⟨gb185, 0, none⟩) (Kd.R_mono HO_54.out (fun k_ hk => (⟨hk, hk.2⟩ : _ ∧ k_ ≠ gb185))) (fun _ hk => hk.2) (.int .i64 ((rd_T100 x54_2 x56_2).f0))) (fun _ hk => hk.2) (.int .i64 ((rd_T100 x54_2 x56_2).f1))) (fun _ hk => ⟨hk.1.1, hk.1.2⟩)⟩
             have n1_ : Aside0 (Kd.R k100 100 ((w23.setCell ⟨gb185, 0, none⟩ (.int .i64 ((rd_T100 x54_2 x56_2).f0))).setCell ⟨gb185, 1, none⟩ (.int .i64 ((rd_T100 x54_2 x56_2).f1))) w1_.heap.size (fun k_ => some k_ ≠ (.slice (some ad184) x54_2.length co16 : Value).ownBlock ∧ k_ ≠ gb185) (.slice Ao27 x184001_2.length co27) x184001_2) := ⟨by (with_reducible repeat (first | apply Kd.R_alloc | apply Kd.R_drewN | apply Kd.R_drew)); exact Kd.R_mono (Kd.R_far (p := ⟨gb185, 1, none⟩) (Kd.R_far (p := ⟨gb185, 0, none⟩) (Kd.R_mono HO_184001.out (fun k_ hk => (⟨hk, hk.2⟩ : _ ∧ k_ ≠ gb185))) (fun _ hk => hk.2) (.int .i64 ((rd_T100 x54_2 x56_2).f0))) (fun _ hk => hk.2) (.int .i64 ((rd_T100 x54_2 x56_2).f1))) (fun _ hk => ⟨hk.1.1, hk.1.2⟩)⟩
             have n2_ : Aside0 (((w23.setCell ⟨gb185, 0, none⟩ (.int .i64 ((rd_T100 x54_2 x56_2).f0))).setCell ⟨gb185, 1, none⟩ (.int .i64 ((rd_T100 x54_2 x56_2).f1))).heap[gb183]? = some (.cells #[.string a0, .slice Ao27 x184001_2.length co27] 103 (0, 0))) := ⟨by (with_reducible repeat (first | refine blk_drewN ?_ _ | refine blk_drew ?_ | refine blk_alloc ?_ _)); refine blk_far ?_ NB183_185.out _; (with_reducible repeat (first | refine blk_drewN ?_ _ | refine blk_drew ?_ | refine blk_alloc ?_ _)); refine blk_far ?_ NB183_185.out _; (with_reducible repeat (first | refine blk_drewN ?_ _ | refine blk_drew ?_ | refine blk_alloc ?_ _)); exact BK183.out⟩
             have n3_ : Aside0 (((w23.setCell ⟨gb185, 0, none⟩ (.int .i64 ((rd_T100 x54_2 x56_2).f0))).setCell ⟨gb185, 1, none⟩ (.int .i64 ((rd_T100 x54_2 x56_2).f1))).heap[gb185]? = some (.cells #[.int .i64 ((rd_T100 x54_2 x56_2).f0), .int .i64 ((rd_T100 x54_2 x56_2).f1)] 100 (0, 0))) := ⟨by (with_reducible repeat (first | refine blk_drewN ?_ _ | refine blk_drew ?_ | refine blk_alloc ?_ _)); refine blk_put (cs := #[.int .i64 ((rd_T100 x54_2 x56_2).f0), .int .i64 0]) ?_ 1 _ rfl; (with_reducible repeat (first | refine blk_drewN ?_ _ | refine blk_drew ?_ | refine blk_alloc ?_ _)); refine blk_put (cs := #[.int .i64 0, .int .i64 0]) ?_ 0 _ rfl; (with_reducible repeat (first | refine blk_drewN ?_ _ | refine blk_drew ?_ | refine blk_alloc ?_ _)); exact BK185.out⟩
             have n4_ : Aside0 (Below w1_.heap.size w1_ ((w23.setCell ⟨gb185, 0, none⟩ (.int .i64 ((rd_T100 x54_2 x56_2).f0))).setCell ⟨gb185, 1, none⟩ (.int .i64 ((rd_T100 x54_2 x56_2).f1)))) := ⟨by repeat (first | (with_reducible first | exact HB.out | apply below_alloc | apply pw_below_drewN | apply below_drew1 | refine below_set ?_ GE183.out | refine below_set ?_ GE185.out) | exact HB.out)⟩
             (try clear HO_54)
             (try clear HO_184001)
             (try clear BK183)
             (try clear BK185)
             (try clear HB)
             generalize ((w23.setCell ⟨gb185, 0, none⟩ (.int .i64 ((rd_T100 x54_2 x56_2).f0))).setCell ⟨gb185, 1, none⟩ (.int .i64 ((rd_T100 x54_2 x56_2).f1))) = w35 at n0_ n1_ n2_ n3_ n4_ ⊢
             have HO_54 := n0_
             have HO_184001 := n1_
             have BK183 := n2_
             have BK185 := n3_
             have HB := n4_
             clear n0_ n1_ n2_ n3_ n4_
             have n0_ := Aside0.mk (Kd.R_drew HO_54.out)
             have n1_ := Aside0.mk (Kd.R_drew HO_184001.out)
             have n2_ := Aside0.mk (blk_drew BK183.out)
             have n3_ := Aside0.mk (blk_drew BK185.out)
             have n4_ := Aside0.mk (below_drew1 HB.out)
             clear HO_54 HO_184001 BK183 BK185 HB
             have HO_54 := n0_
             have HO_184001 := n1_
             have BK183 := n2_
             have BK185 := n3_
             have HB := n4_
             clear n0_ n1_ n2_ n3_ n4_
             have p187 : 0 ≤ ((wrap64 ((x184001_2.length : Int) - 1)) : Int) := of_decide_eq_true (by first | (with_reducible assumption) | assumption)
             have q187 : (wrap64 ((x184001_2.length : Int) - 1)) < (x184001_2.length : Int) := of_decide_eq_true (by first | (with_reducible assumption) | assumption)
             obtain ⟨ad187, e187, hx187_0, hx187_1⟩ := at_T100 (Kd.R_reads' HO_184001.out).2.2 (wrap64 ((x184001_2.length : Int) - 1)) p187 q187
             cases e187
             (try simp only [hl54_2] at p187)
             (try simp only [hl54_2] at q187)
             (try simp only [hl54_2] at hx187_0)
             (try simp only [hl54_2] at hx187_1)
             replace p187 := eq_true p187
             replace q187 := eq_true q187
             refine start_ (n := 16) (S := fun w' => w'.cell? ⟨gb185, 0, none⟩ = some (.int .i64 ((rd_T100 x54_2 x56_2).f0)) ∧ w'.cell? ⟨gb185, 1, none⟩ = some (.int .i64 ((rd_T100 x54_2 x56_2).f1)) ∧ w'.cell? ⟨gb183, 0, none⟩ = some (.string a0) ∧ w'.cell? ⟨gb183, 1, none⟩ = some (.slice (some ad187) x184001_2.length co27) ∧ w'.cell? (ad187.add (((wrap64 ((x184001_2.length : Int) - 1))).toNat * 2)) = some (.int .i64 ((rd_T100 x184001_2 (wrap64 ((x184001_2.length : Int) - 1))).f0)) ∧ w'.cell? ⟨(ad187.add (((wrap64 ((x184001_2.length : Int) - 1))).toNat * 2)).block, (ad187.add (((wrap64 ((x184001_2.length : Int) - 1))).toNat * 2)).off + 1, none⟩ = some (.int .i64 ((rd_T100 x184001_2 (wrap64 ((x184001_2.length : Int) - 1))).f1))) (ds := []) #[false, false, false, false, false, false, false, false, false, false, false, false, false, false, false, false] (by kernel_rfl) rfl rfl ⟨(blk_cell BK185.out 0).trans rfl, (blk_cell BK185.out 1).trans rfl, (blk_cell BK183.out 0).trans rfl, (blk_cell BK183.out 1).trans rfl, hx187_0, hx187_1⟩ (fun hHeld => ?_); refine with_tabW carets_settled.tab16 carets_settled.bits16 (fun HT_ HW_ => ?_)
             generalize w35.drew = w36 at HO_54 HO_184001 BK183 BK185 HB hx187_0 hx187_1 hHeld ⊢
             refine pure_ (i := 0) (N := some 65) (v := ?_) (a' := ?_) #[true, false, false, false, false, false, false, false, false, false, false, false, false, false, false, false] rfl rfl (any_of HT_.out (by kernel_rfl)) (fun _ _ _ h => h) (Or.inl ⟨by rfl, ?_⟩) ?_ ?_
             rotate_left; ·(intro w'; go_simp; with_reducible rfl)
             rotate_left; ·(simp only [Act.put, List.setIfInBounds_toArray, List.set_cons_zero, List.set_cons_succ, i64_w, i32_w]; rfl)
             refine pure_ (i := 1) (N := some 66) (v := ?_) (a' := ?_) #[true, true, false, false, false, false, false, false, false, false, false, false, false, false, false, false] rfl rfl (any_of HT_.out (by kernel_rfl)) (fun _ _ _ h => h) (Or.inl ⟨by rfl, ?_⟩) ?_ ?_
             rotate_left; ·(intro w'; go_simp; with_reducible rfl)
             rotate_left; ·(simp only [Act.put, List.setIfInBounds_toArray, List.set_cons_zero, List.set_cons_succ, i64_w, i32_w]; rfl)
             refine pure_ (i := 2) (N := some 67) (v := ?_) (a' := ?_) #[true, true, true, false, false, false, false, false, false, false, false, false, false, false, false, false] rfl rfl (any_of HT_.out (by kernel_rfl)) (fun _ _ _ h => h) (Or.inl ⟨by rfl, ?_⟩) ?_ ?_
             rotate_left; ·(intro w'; go_simp; with_reducible rfl)
             rotate_left; ·(simp only [Act.put, List.setIfInBounds_toArray, List.set_cons_zero, List.set_cons_succ, i64_w, i32_w]; rfl)
             refine pure_ (i := 5) (N := some 70) (v := ?_) (a' := ?_) #[true, true, true, false, false, true, false, false, false, false, false, false, false, false, false, false] rfl rfl (any_of HT_.out (by kernel_rfl)) (fun _ _ _ h => h) (Or.inl ⟨by rfl, ?_⟩) ?_ ?_
             rotate_left; ·(intro w'; go_simp; with_reducible rfl)
             rotate_left; ·(simp only [Act.put, List.setIfInBounds_toArray, List.set_cons_zero, List.set_cons_succ, i64_w, i32_w]; rfl)
             refine pure_ (i := 6) (N := some 71) (v := ?_) (a' := ?_) #[true, true, true, false, false, true, true, false, false, false, false, false, false, false, false, false] rfl rfl (any_of HT_.out (by kernel_rfl)) (fun _ _ _ h => h) (Or.inl ⟨by rfl, ?_⟩) ?_ ?_
             rotate_left; ·(intro w'; go_simp; with_reducible rfl)
             rotate_left; ·(simp only [Act.put, List.setIfInBounds_toArray, List.set_cons_zero, List.set_cons_succ, i64_w, i32_w]; rfl)
             refine pure_ (i := 7) (N := some 72) (v := ?_) (a' := ?_) #[true, true, true, false, false, true, true, true, false, false, false, false, false, false, false, false] rfl rfl (any_of HT_.out (by kernel_rfl)) (fun _ _ _ h => h) (Or.inl ⟨by rfl, ?_⟩) ?_ ?_
             rotate_left; ·(intro w'; go_simp; with_reducible rfl)
             rotate_left; ·(simp only [Act.put, List.setIfInBounds_toArray, List.set_cons_zero, List.set_cons_succ, i64_w, i32_w]; rfl)
             refine pure_ (i := 9) (N := some 74) (v := ?_) (a' := ?_) #[true, true, true, false, false, true, true, true, false, true, false, false, false, false, false, false] rfl rfl (any_of HT_.out (by kernel_rfl)) (fun _ _ _ h => h) (Or.inl ⟨by rfl, ?_⟩) ?_ ?_
             rotate_left; ·(intro w'; go_simp; with_reducible rfl)
             rotate_left; ·(simp only [Act.put, List.setIfInBounds_toArray, List.set_cons_zero, List.set_cons_succ, i64_w, i32_w]; rfl)
             refine pure_ (i := 10) (N := some 75) (v := ?_) (a' := ?_) #[true, true, true, false, false, true, true, true, false, true, true, false, false, false, false, false] rfl rfl (any_of HT_.out (by kernel_rfl)) (fun _ _ _ h => h) (Or.inl ⟨by rfl, ?_⟩) ?_ ?_
             rotate_left; ·(intro w'; go_simp; with_reducible rfl)
             rotate_left; ·(simp only [Act.put, List.setIfInBounds_toArray, List.set_cons_zero, List.set_cons_succ, i64_w, i32_w]; rfl)
             refine take_ (i := 3) (N := some 68) (v := ?_) (a' := ?_) #[true, true, true, true, false, true, true, true, false, true, true, false, false, false, false, false] rfl rfl (take_ofW HT_.out HW_.out (by kernel_rfl)) (fun _ _ _ h => h) (Or.inl ⟨by rfl, ?_⟩) hHeld ?_ ?_
             rotate_left
             ·rintro w' ⟨s0, s1, s2, s3, s4, s5⟩
              go_simp
              with_reducible rfl
             rotate_left; ·(simp only [Act.put, List.setIfInBounds_toArray, List.set_cons_zero, List.set_cons_succ, i64_w, i32_w]; rfl)
             refine take_ (i := 8) (N := some 73) (v := ?_) (a' := ?_) #[true, true, true, true, false, true, true, true, true, true, true, false, false, false, false, false] rfl rfl (take_ofW HT_.out HW_.out (by kernel_rfl)) (fun _ _ _ h => h) (Or.inl ⟨by rfl, ?_⟩) hHeld ?_ ?_
             rotate_left
             ·rintro w' ⟨s0, s1, s2, s3, s4, s5⟩
              go_simp
              with_reducible rfl
             rotate_left; ·(simp only [Act.put, List.setIfInBounds_toArray, List.set_cons_zero, List.set_cons_succ, i64_w, i32_w]; rfl)
             refine pure_ (i := 11) (N := some 76) (v := ?_) (a' := ?_) #[true, true, true, true, false, true, true, true, true, true, true, true, false, false, false, false] rfl rfl (any_of HT_.out (by kernel_rfl)) (fun _ _ _ h => h) (Or.inl ⟨by rfl, ?_⟩) ?_ ?_
             rotate_left; ·(intro w'; go_simp; with_reducible rfl)
             rotate_left; ·(simp only [Act.put, List.setIfInBounds_toArray, List.set_cons_zero, List.set_cons_succ, i64_w, i32_w]; rfl)
             refine take_ (i := 12) (N := some 77) (v := ?_) (a' := ?_) #[true, true, true, true, false, true, true, true, true, true, true, true, true, false, false, false] rfl rfl (take_ofW HT_.out HW_.out (by kernel_rfl)) (fun _ _ _ h => h) (Or.inl ⟨by rfl, ?_⟩) hHeld ?_ ?_
             rotate_left
             ·rintro w' ⟨s0, s1, s2, s3, s4, s5⟩
              go_simp
              with_reducible rfl
             rotate_left; ·(simp only [Act.put, List.setIfInBounds_toArray, List.set_cons_zero, List.set_cons_succ, i64_w, i32_w]; rfl)
             refine one_ (i := 4) (N := some 69) #[true, true, true, true, true, true, true, true, true, true, true, true, true, false, false, false] rfl rfl (one_of HT_.out (by kernel_rfl)) (by decide) (fun K hK => ?_)
             refine goes_ Tryd.func75 (by kernel_rfl) rfl #[.agg #[.int .i64 ((rd_T100 x54_2 x56_2).f0), .int .i64 ((rd_T100 x54_2 x56_2).f1)]] (by rfl) rfl rfl (by (try simp only [List.map_toArray, List.map_cons, List.map_nil]); first | done | rfl | (simp only [List.length_drop, List.length_take]; rfl)) ?_
             with_reducible refine (carets_low.calls ((rd_T100 x54_2 x56_2).f0) ((rd_T100 x54_2 x56_2).f1) t186 _ A31.out).mono ?_
             rintro e w37 ⟨rfl, hb⟩
             have HS4_ := (hb.cell (World.block_lt_of_cell? _ _ (hHeld.2.2.2.2.1))).trans (hHeld.2.2.2.2.1)
             have HS5_ := (hb.cell (World.block_lt_of_cell? _ _ (hHeld.2.2.2.2.2))).trans (hHeld.2.2.2.2.2)
             refine ⟨_, rfl, ?_⟩
             have n0_ := Aside0.mk (Kd.R_below (by (with_reducible repeat (first | apply Kd.R_alloc | apply Kd.R_drewN | apply Kd.R_drew)); exact HO_54.out) hb)
             have n1_ := Aside0.mk (Kd.R_below (by (with_reducible repeat (first | apply Kd.R_alloc | apply Kd.R_drewN | apply Kd.R_drew)); exact HO_184001.out) hb)
             have n2_ := Aside0.mk (blk_below (g := gb183) (o := .cells #[.string a0, .slice (some ad187) x184001_2.length co27] 103 (0, 0)) (by (with_reducible repeat (first | refine blk_drewN ?_ _ | refine blk_drew ?_ | refine blk_alloc ?_ _)); exact BK183.out) hb)
             have n3_ := Aside0.mk (blk_below (g := gb185) (o := .cells #[.int .i64 ((rd_T100 x54_2 x56_2).f0), .int .i64 ((rd_T100 x54_2 x56_2).f1)] 100 (0, 0)) (by (with_reducible repeat (first | refine blk_drewN ?_ _ | refine blk_drew ?_ | refine blk_alloc ?_ _)); exact BK185.out) hb)
             have n4_ := Aside0.mk (below_step (by repeat (first | (with_reducible first | exact HB.out | apply below_alloc | apply pw_below_drewN | apply below_drew1 | refine below_set ?_ GE183.out | refine below_set ?_ GE185.out) | exact HB.out)) hb)
             clear HO_54 HO_184001 BK183 BK185 HB
             have HO_54 := n0_
             have HO_184001 := n1_
             have BK183 := n2_
             have BK185 := n3_
             have HB := n4_
             clear n0_ n1_ n2_ n3_ n4_
             (try clear hb)
             (try clear hb2)
             (try clear hk)
             (try clear hi)
             refine hK.out _ _ ⟨(blk_cell BK185.out 0).trans rfl, (blk_cell BK185.out 1).trans rfl, (blk_cell BK183.out 0).trans rfl, (blk_cell BK183.out 1).trans rfl, HS4_, HS5_⟩ (fun hHeld => ?_)
             clear hK K
             refine norm_ (a' := ?_) ?_ ?_
             rotate_left
             ·show Act.put _ (some 69) _ = _
              simp only [Act.put, List.setIfInBounds_toArray, List.set_cons_zero, List.set_cons_succ, i64_w, i32_w]
              rfl
             refine one_ (i := 13) (N := some 78) #[true, true, true, true, true, true, true, true, true, true, true, true, true, true, false, false] rfl rfl (one_of HT_.out (by kernel_rfl)) (by decide) (fun K hK => ?_)
             refine goes_ Tryd.func76 (by kernel_rfl) rfl #[.agg #[.int .i64 ((rd_T100 x184001_2 (wrap64 ((x184001_2.length : Int) - 1))).f0), .int .i64 ((rd_T100 x184001_2 (wrap64 ((x184001_2.length : Int) - 1))).f1)]] (by rfl) rfl rfl (by (try simp only [List.map_toArray, List.map_cons, List.map_nil]); first | done | rfl | (simp only [List.length_drop, List.length_take]; rfl)) ?_
             with_reducible refine (carets_high.calls ((rd_T100 x184001_2 (wrap64 ((x184001_2.length : Int) - 1))).f0) ((rd_T100 x184001_2 (wrap64 ((x184001_2.length : Int) - 1))).f1) t188 _ A34.out).mono ?_
             rintro e w38 ⟨rfl, hb⟩
             have HS4_ := (hb.cell (World.block_lt_of_cell? _ _ (hHeld.2.2.2.2.1))).trans (hHeld.2.2.2.2.1)
             have HS5_ := (hb.cell (World.block_lt_of_cell? _ _ (hHeld.2.2.2.2.2))).trans (hHeld.2.2.2.2.2)
             refine ⟨_, rfl, ?_⟩
             have n0_ := Aside0.mk (Kd.R_below (by (with_reducible repeat (first | apply Kd.R_alloc | apply Kd.R_drewN | apply Kd.R_drew)); exact HO_54.out) hb)
             have n1_ := Aside0.mk (Kd.R_below (by (with_reducible repeat (first | apply Kd.R_alloc | apply Kd.R_drewN | apply Kd.R_drew)); exact HO_184001.out) hb)
             have n2_ := Aside0.mk (blk_below (g := gb183) (o := .cells #[.string a0, .slice (some ad187) x184001_2.length co27] 103 (0, 0)) (by (with_reducible repeat (first | refine blk_drewN ?_ _ | refine blk_drew ?_ | refine blk_alloc ?_ _)); exact BK183.out) hb)
             have n3_ := Aside0.mk (blk_below (g := gb185) (o := .cells #[.int .i64 ((rd_T100 x54_2 x56_2).f0), .int .i64 ((rd_T100 x54_2 x56_2).f1)] 100 (0, 0)) (by (with_reducible repeat (first | refine blk_drewN ?_ _ | refine blk_drew ?_ | refine blk_alloc ?_ _)); exact BK185.out) hb)
             have n4_ := Aside0.mk (below_step (by repeat (first | (with_reducible first | exact HB.out | apply below_alloc | apply pw_below_drewN | apply below_drew1 | refine below_set ?_ GE183.out | refine below_set ?_ GE185.out) | exact HB.out)) hb)
             clear HO_54 HO_184001 BK183 BK185 HB
             have HO_54 := n0_
             have HO_184001 := n1_
             have BK183 := n2_
             have BK185 := n3_
             have HB := n4_
             clear n0_ n1_ n2_ n3_ n4_
             (try clear hb)
             (try clear hb2)
             (try clear hk)
             (try clear hi)
             refine hK.out _ _ ⟨(blk_cell BK185.out 0).trans rfl, (blk_cell BK185.out 1).trans rfl, (blk_cell BK183.out 0).trans rfl, (blk_cell BK183.out 1).trans rfl, HS4_, HS5_⟩ (fun hHeld => ?_)
             clear hK K
             refine norm_ (a' := ?_) ?_ ?_
             rotate_left
             ·show Act.put _ (some 78) _ = _
              simp only [Act.put, List.setIfInBounds_toArray, List.set_cons_zero, List.set_cons_succ, i64_w, i32_w]
              rfl
             refine pure_ (i := 14) (N := some 79) (v := ?_) (a' := ?_) #[true, true, true, true, true, true, true, true, true, true, true, true, true, true, true, false] rfl rfl (any_of HT_.out (by kernel_rfl)) (fun _ _ _ h => h) (Or.inl ⟨by rfl, ?_⟩) ?_ ?_
             rotate_left; ·(intro w'; go_simp; with_reducible rfl)
             rotate_left; ·(simp only [Act.put, List.setIfInBounds_toArray, List.set_cons_zero, List.set_cons_succ, i64_w, i32_w]; rfl)
             refine pure_ (i := 15) (N := some 80) (v := ?_) (a' := ?_) #[true, true, true, true, true, true, true, true, true, true, true, true, true, true, true, true] rfl rfl (any_of HT_.out (by kernel_rfl)) (fun _ _ _ h => h) (Or.inl ⟨by rfl, ?_⟩) ?_ ?_
             rotate_left; ·(intro w'; go_simp; with_reducible rfl)
             rotate_left; ·(simp only [Act.put, List.setIfInBounds_toArray, List.set_cons_zero, List.set_cons_succ, i64_w, i32_w]; rfl)
             refine done_ (done_of HT_.out (by kernel_rfl)) ?_
             try go_wp2
             go_meet
             case rel => exact ⟨_, (decide (t186 > t188)), (by first | rfl | (simp; done) | (simp [*]; done)), H', ⟨by have := HK1.out; have := HK2.out; first | omega | exact Nat.le_refl _⟩, ⟨by (try simp only [hl54_2]); (with_reducible repeat (first | apply Kd.R_alloc | apply Kd.R_drewN | apply Kd.R_drew)); exact HO_54.out⟩, ⟨by (try simp only [hl54_2]); (with_reducible repeat (first | apply Kd.R_alloc | apply Kd.R_drewN | apply Kd.R_drew)); exact HO_184001.out⟩, ⟨by (try simp only [hl54_2]); (with_reducible repeat (first | refine blk_drewN ?_ _ | refine blk_drew ?_ | refine blk_alloc ?_ _)); exact BK183.out⟩, ⟨by (try simp only [hl54_2]); (with_reducible repeat (first | refine blk_drewN ?_ _ | refine blk_drew ?_ | refine blk_alloc ?_ _)); exact BK185.out⟩, ⟨by repeat (first | (with_reducible first | exact HB.out | apply below_alloc | apply pw_below_drewN | apply below_drew1 | refine below_set ?_ GE183.out | refine below_set ?_ GE185.out) | exact HB.out)⟩⟩
            ·rw [if_neg c33] at H
             exact absurd H (by simp)
           ·rw [if_neg c32] at H
            exact absurd H (by simp)
         case rest =>
          clear HC22
          try clear c1
          try clear p1
          try clear q1
          try clear hx1
          try clear c2
          try clear p2
          try clear c3
          try clear c3b0
          try clear c4
          try clear c4b0
          try clear c5
          try clear c5b0
          try clear c6
          try clear p6
          try clear c7
          try clear c8
          try clear p17
          try clear q17
          try clear hx17
          try clear p18
          try clear q18
          try clear hx18
          try clear c19
          try clear c19b0
          try clear c20
          try clear c20b0
          try clear c21
          try clear c21b0
          try clear c24
          try clear c28
          try clear c28b0
          try clear c28b1
          try clear c28b2
          try clear c32
          try clear c32b0
          try clear c33
          try clear c33b0
          try clear hcz10_0
          try clear hcz10_1
          try clear hcz12_0
          try clear hcz12_1
          try clear hcz25_0
          try clear hcz25_1
          try clear hcz26_0
          try clear hcz26_1
          try clear hfz10_0
          try clear hfz10_1
          try clear hfz12_0
          try clear hfz12_1
          try clear hfz25_0
          try clear hfz25_1
          try clear hfz26_0
          try clear hfz26_1
          try clear hx173_0
          try clear hx173_1
          try clear hx184_0
          try clear hx184_1
          try clear hx187_0
          try clear hx187_1
          try clear p1
          try clear p17
          try clear p173
          try clear p184
          try clear p187
          try clear p2
          try clear p6
          try clear q1
          try clear q17
          try clear q173
          try clear q184
          try clear q187
          obtain ⟨kq, x80_21, rfl, HA, HJ21, HO_54, HO_184001, BK183, BK185, HB⟩ := hcut
          cases kq with
          | zero => exact absurd HA.out (by simp [carets_settled.j2])
          | succ kj21 =>
           have H := HA.out
           clear HA
           simp only [carets_settled.j2] at H
           by_cases c39 : x80_21 = true
           ·subst c39
            have H1 : (if x184001_2.length < 8796093022208 then (carets_settled.l1 kj21 x54_2 (x6_1.length : Int) (wrap64 (x56_2 + 1)) a0 (x184001_2 ++ [(⟨((rd_T100 x54_2 x56_2).f0), ((rd_T100 x54_2 x56_2).f1)⟩ : S100)])) else (none)) = some (r1, r2) := by rw [if_pos rfl] at H; exact H
            clear H
            have H := H1
            clear H1
            by_cases c40 : x184001_2.length < 8796093022208
            ·rw [if_pos c40] at H
             have LMc40 := Aside0.mk c40
             clear c40
             obtain ⟨y189, hy189⟩ : ∃ y_ : List (S100), y_ = (x184001_2 ++ [(⟨((rd_T100 x54_2 x56_2).f0), ((rd_T100 x54_2 x56_2).f1)⟩ : S100)]) := ⟨_, rfl⟩
             replace H : (carets_settled.l1 kj21 x54_2 (x6_1.length : Int) (wrap64 (x56_2 + 1)) a0 y189) = some (r1, r2) := by first | (rw [hy189]; with_reducible exact H) | (have H2_ := (Option.bind_some _ _).symm.trans H; rw [hy189]; with_reducible exact H2_) | (have H2_ := (Option.bind_some _ _).symm.trans H; with_reducible exact H2_) | with_reducible exact H | (rw [hy189]; exact H) | exact H
             have Ny189 := Aside0.mk hy189
             clear hy189
             have H' := Aside0.mk H
             clear H
             try go_wp2
             have n0_ := Aside0.mk (Kd.R_drew HO_54.out)
             have n1_ := Aside0.mk (Kd.R_drew HO_184001.out)
             have n2_ := Aside0.mk (blk_drew BK183.out)
             have n3_ := Aside0.mk (blk_drew BK185.out)
             have n4_ := Aside0.mk (below_drew1 HB.out)
             clear HO_54 HO_184001 BK183 BK185 HB
             have HO_54 := n0_
             have HO_184001 := n1_
             have BK183 := n2_
             have BK185 := n3_
             have HB := n4_
             clear n0_ n1_ n2_ n3_ n4_
             refine start_ (n := 11) (S := fun w' => w'.cell? ⟨gb183, 0, none⟩ = some (.string a0) ∧ w'.cell? ⟨gb183, 1, none⟩ = some (.slice Ao27 x184001_2.length co27) ∧ w'.cell? ⟨gb185, 0, none⟩ = some (.int .i64 ((rd_T100 x54_2 x56_2).f0)) ∧ w'.cell? ⟨gb185, 1, none⟩ = some (.int .i64 ((rd_T100 x54_2 x56_2).f1))) (ds := [10]) #[false, false, false, false, false, false, false, false, false, false, false] (by kernel_rfl) rfl rfl ⟨(blk_cell BK183.out 0).trans rfl, (blk_cell BK183.out 1).trans rfl, (blk_cell BK185.out 0).trans rfl, (blk_cell BK185.out 1).trans rfl⟩ (fun hHeld => ?_); refine with_tabW carets_settled.tab17 carets_settled.bits17 (fun HT_ HW_ => ?_)
             generalize wc.drew = w41 at HO_54 HO_184001 BK183 BK185 HB hHeld ⊢
             refine pure_ (i := 0) (N := some 81) (v := ?_) (a' := ?_) #[true, false, false, false, false, false, false, false, false, false, false] rfl rfl (any_of HT_.out (by kernel_rfl)) (fun _ _ _ h => h) (Or.inl ⟨by rfl, ?_⟩) ?_ ?_
             rotate_left; ·(intro w'; go_simp; with_reducible rfl)
             rotate_left; ·(simp only [Act.put, List.setIfInBounds_toArray, List.set_cons_zero, List.set_cons_succ, i64_w, i32_w]; rfl)
             refine pure_ (i := 1) (N := some 82) (v := ?_) (a' := ?_) #[true, true, false, false, false, false, false, false, false, false, false] rfl rfl (any_of HT_.out (by kernel_rfl)) (fun _ _ _ h => h) (Or.inl ⟨by rfl, ?_⟩) ?_ ?_
             rotate_left; ·(intro w'; go_simp; with_reducible rfl)
             rotate_left; ·(simp only [Act.put, List.setIfInBounds_toArray, List.set_cons_zero, List.set_cons_succ, i64_w, i32_w]; rfl)
             refine pure_ (i := 2) (N := some 83) (v := ?_) (a' := ?_) #[true, true, true, false, false, false, false, false, false, false, false] rfl rfl (any_of HT_.out (by kernel_rfl)) (fun _ _ _ h => h) (Or.inl ⟨by rfl, ?_⟩) ?_ ?_
             rotate_left; ·(intro w'; go_simp; with_reducible rfl)
             rotate_left; ·(simp only [Act.put, List.setIfInBounds_toArray, List.set_cons_zero, List.set_cons_succ, i64_w, i32_w]; rfl)
             refine pure_ (i := 3) (N := some 84) (v := ?_) (a' := ?_) #[true, true, true, true, false, false, false, false, false, false, false] rfl rfl (any_of HT_.out (by kernel_rfl)) (fun _ _ _ h => h) (Or.inl ⟨by rfl, ?_⟩) ?_ ?_
             rotate_left; ·(intro w'; go_simp; with_reducible rfl)
             rotate_left; ·(simp only [Act.put, List.setIfInBounds_toArray, List.set_cons_zero, List.set_cons_succ, i64_w, i32_w]; rfl)
             refine take_ (i := 4) (N := some 85) (v := ?_) (a' := ?_) #[true, true, true, true, true, false, false, false, false, false, false] rfl rfl (take_ofW HT_.out HW_.out (by kernel_rfl)) (fun _ _ _ h => h) (Or.inl ⟨by rfl, ?_⟩) hHeld ?_ ?_
             rotate_left
             ·rintro w' ⟨s0, s1, s2, s3⟩
              go_simp
              with_reducible rfl
             rotate_left; ·(simp only [Act.put, List.setIfInBounds_toArray, List.set_cons_zero, List.set_cons_succ, i64_w, i32_w]; rfl)
             refine take_ (i := 5) (N := some 86) (v := ?_) (a' := ?_) #[true, true, true, true, true, true, false, false, false, false, false] rfl rfl (take_ofW HT_.out HW_.out (by kernel_rfl)) (fun _ _ _ h => h) (Or.inl ⟨by rfl, ?_⟩) hHeld ?_ ?_
             rotate_left
             ·rintro w' ⟨s0, s1, s2, s3⟩
              go_simp
              with_reducible rfl
             rotate_left; ·(simp only [Act.put, List.setIfInBounds_toArray, List.set_cons_zero, List.set_cons_succ, i64_w, i32_w]; rfl)
             refine one_ (i := 6) (N := some 87) #[true, true, true, true, true, true, true, false, false, false, false] rfl rfl (one_of HT_.out (by kernel_rfl)) (by decide) (fun K hK => ?_)
             refine value_ (w1 := ?_) (v := ?_) (by rfl) rfl ?_ ?_
             rotate_left 2
             ·go_simp
              constructor
              ·rfl
              ·rfl
             refine hK.out _ _ ⟨(blk_cell (blk_alloc BK183.out _) 0).trans rfl, (blk_cell (blk_alloc BK183.out _) 1).trans rfl, (blk_cell (blk_alloc BK185.out _) 0).trans rfl, (blk_cell (blk_alloc BK185.out _) 1).trans rfl⟩ (fun hHeld => ?_)
             clear hK K
             refine norm_ (a' := ?_) ?_ ?_
             rotate_left
             ·show Act.put _ (some 87) _ = _
              simp only [Act.put, List.setIfInBounds_toArray, List.set_cons_zero, List.set_cons_succ, i64_w, i32_w]
              rfl
             refine one_ (i := 7) (N := some 88) #[true, true, true, true, true, true, true, true, false, false, false] rfl rfl (one_of HT_.out (by kernel_rfl)) (by decide) (fun K hK => ?_)
             refine Kd.R_append_step k100 (w0 := w1_) w1_.heap.size (by rfl) (.tmp 85) (.tmp 87) 62 100 (.agg #[(.int .i64 0), (.int .i64 0)]) 16 rfl Tryd.underlying62 info100 rfl (by decide) (by omega) (.slice Ao27 x184001_2.length co27) x184001_2 (⟨((rd_T100 x54_2 x56_2).f0), ((rd_T100 x54_2 x56_2).f1)⟩ : S100) [.int .i64 ((rd_T100 x54_2 x56_2).f0), .int .i64 ((rd_T100 x54_2 x56_2).f1)] (fun k_ => some k_ ≠ (.slice (some ad184) x54_2.length co16 : Value).ownBlock ∧ k_ ≠ gb185) (fun _ => False) rfl rfl ?aP (fun _ hk => hk.elim) ?aF ?aO ?aB ?aS ?aL ?_
             (case aP => exact k100_mkM _ _ _ (⟨((rd_T100 x54_2 x56_2).f0), ((rd_T100 x54_2 x56_2).f1)⟩ : S100))
             (case aB => exact (by repeat (first | (with_reducible first | exact HB.out | apply below_alloc | apply pw_below_drewN | apply below_drew1 | refine below_set ?_ GE183.out | refine below_set ?_ GE185.out) | exact HB.out)))
             (case aF => exact (fun k_ hk => ⟨Kd.fresh' (Kd.R_lt (by (with_reducible repeat (first | apply Kd.R_alloc | apply Kd.R_drewN | apply Kd.R_drew)); exact HO_54.out)) k_ hk, Kd.freshB (g := gb185) (o := .cells #[.int .i64 ((rd_T100 x54_2 x56_2).f0), .int .i64 ((rd_T100 x54_2 x56_2).f1)] 100 (0, 0)) (by (with_reducible repeat (first | refine blk_drewN ?_ _ | refine blk_drew ?_ | refine blk_alloc ?_ _)); exact BK185.out) k_ hk⟩))
             (case aO => exact (by (with_reducible repeat (first | apply Kd.R_alloc | apply Kd.R_drewN | apply Kd.R_drew)); exact HO_184001.out))
             (case aS => exact (below_size (by repeat (first | (with_reducible first | exact HB.out | apply below_alloc | apply pw_below_drewN | apply below_drew1 | refine below_set ?_ GW183.out | refine below_set ?_ GW185.out) | exact HB.out))))
             (case aL => have := LMc40.out; omega)
             intro v190 w42 ho hb hg hat
             rw [← Ny189.out] at ho
             have n0_ := Aside0.mk (Kd.R_after (ok := (fun k_ => k_ ≠ gb185)) (by (with_reducible repeat (first | apply Kd.R_alloc | apply Kd.R_drewN | apply Kd.R_drew)); exact Kd.R_mono HO_54.out (fun _ hk => ⟨hk.2, hk.1⟩)) hg hat)
             have n1_ := Aside0.mk (blk_grown (g := gb183) (o := .cells #[.string a0, .slice Ao27 x184001_2.length co27] 103 (0, 0)) (by (with_reducible repeat (first | refine blk_drewN ?_ _ | refine blk_drew ?_ | refine blk_alloc ?_ _)); exact BK183.out) hg (Kd.R_ne HO_184001.out BK183.out (by decide)))
             have n2_ := Aside0.mk (blk_grown (g := gb185) (o := .cells #[.int .i64 ((rd_T100 x54_2 x56_2).f0), .int .i64 ((rd_T100 x54_2 x56_2).f1)] 100 (0, 0)) (by (with_reducible repeat (first | refine blk_drewN ?_ _ | refine blk_drew ?_ | refine blk_alloc ?_ _)); exact BK185.out) hg (Kd.R_away HO_184001.out (fun _ hk => hk.2)))
             have n3_ := Aside0.mk (hb)
             have n4_ := Aside0.mk (ho)
             clear HO_54 BK183 BK185 HB HO_184001
             have HO_54 := n0_
             have BK183 := n1_
             have BK185 := n2_
             have HB := n3_
             have HO191 := n4_
             clear n0_ n1_ n2_ n3_ n4_
             clear ho hb hg hat
             obtain ⟨Ao43, co43, eo43⟩ := Kd.R_slice HO191.out
             (first | subst eo43 | (injection eo43 with f1_ f2_ f3_; have f4_ := f1_.symm; have f5_ := f3_.symm; clear f1_ f2_ f3_; subst f4_; subst f5_))
             refine hK.out _ _ ⟨(blk_cell BK183.out 0).trans rfl, (blk_cell BK183.out 1).trans rfl, (blk_cell BK185.out 0).trans rfl, (blk_cell BK185.out 1).trans rfl⟩ (fun hHeld => ?_)
             clear hK K
             refine norm_ (a' := ?_) ?_ ?_
             rotate_left
             ·show Act.put _ (some 88) _ = _
              simp only [Act.put, List.setIfInBounds_toArray, List.set_cons_zero, List.set_cons_succ, i64_w, i32_w]
              rfl
             refine pure_ (i := 8) (N := some 89) (v := ?_) (a' := ?_) #[true, true, true, true, true, true, true, true, true, false, false] rfl rfl (any_of HT_.out (by kernel_rfl)) (fun _ _ _ h => h) (Or.inl ⟨by rfl, ?_⟩) ?_ ?_
             rotate_left; ·(intro w'; go_simp; with_reducible rfl)
             rotate_left; ·(simp only [Act.put, List.setIfInBounds_toArray, List.set_cons_zero, List.set_cons_succ, i64_w, i32_w]; rfl)
             refine pure_ (i := 9) (N := some 90) (v := ?_) (a' := ?_) #[true, true, true, true, true, true, true, true, true, true, false] rfl rfl (any_of HT_.out (by kernel_rfl)) (fun _ _ _ h => h) (Or.inl ⟨by rfl, ?_⟩) ?_ ?_
             rotate_left; ·(intro w'; go_simp; with_reducible rfl)
             rotate_left; ·(simp only [Act.put, List.setIfInBounds_toArray, List.set_cons_zero, List.set_cons_succ, i64_w, i32_w]; rfl)
             refine last_ (i := 10) (N := none) #[true, true, true, true, true, true, true, true, true, true, true] rfl rfl (one_of HT_.out (by kernel_rfl)) (by decide) (fun K hK => ?_)
             have hs44 : w42.cell? ⟨gb183, 1, none⟩ = some (.slice Ao27 x184001_2.length co27) := (blk_cell BK183.out 1).trans rfl
             have hfs44 := blk_frozen BK183.out 1
             have hns44_1 := NB185_183.out
             have hms44_1 := NB183_185.out
             refine skip_ (w1 := ?_) (by rfl) rfl ?_ ?_
             rotate_left
             ·go_simp
              rfl
             refine hK.out _ _ ?_
             clear hK K
             refine done_ (done_of HT_.out (by kernel_rfl)) ?_
             try go_wp2
             (try simp only [← hl54_2])
             go_roundg kj21
             case measure => have := HK1.out; have := HK2.out; have := HJ21.out; omega
             case rel => exact ⟨(x54_2), (wrap64 (x56_2 + 1)), (y189), (.slice Ao43 y189.length co43), (by first | rfl | (simp; done) | (simp [*]; done)), H', ⟨by have := HK1.out; have := HK2.out; have := HJ21.out; omega⟩, ⟨by (try simp only [hl54_2]); (with_reducible repeat (first | apply Kd.R_alloc | apply Kd.R_drewN | apply Kd.R_drew)); exact Kd.R_mono (Kd.R_far (p := ⟨gb183, 1, none⟩) (Kd.R_types HO_54.out BK183.out (by decide)) (fun _ hk => hk.2) (.slice Ao43 y189.length co43)) (fun _ hk => hk.1.2)⟩, ⟨by (try simp only [hl54_2]); (with_reducible repeat (first | apply Kd.R_alloc | apply Kd.R_drewN | apply Kd.R_drew)); exact Kd.R_mono (Kd.R_far (p := ⟨gb183, 1, none⟩) (Kd.R_types HO191.out BK183.out (by decide)) (fun _ hk => hk.2) (.slice Ao43 y189.length co43)) (fun _ hk => hk.1.1)⟩, ⟨by (try simp only [hl54_2]); (with_reducible repeat (first | refine blk_drewN ?_ _ | refine blk_drew ?_ | refine blk_alloc ?_ _)); refine blk_put (cs := #[.string a0, .slice Ao27 x184001_2.length co27]) ?_ 1 _ rfl; (with_reducible repeat (first | refine blk_drewN ?_ _ | refine blk_drew ?_ | refine blk_alloc ?_ _)); exact BK183.out⟩, ⟨by repeat (first | (with_reducible first | exact HB.out | apply below_alloc | apply pw_below_drewN | apply below_drew1 | refine below_set ?_ GE183.out | refine below_set ?_ GE185.out) | exact HB.out)⟩⟩
            ·rw [if_neg c40] at H
             exact absurd H (by simp)
           ·replace c39 := Bool.eq_false_iff.mpr c39
            subst c39
            have H1 : (if 0 ≤ (wrap64 ((x184001_2.length : Int) - 1)) then (if (wrap64 ((x184001_2.length : Int) - 1)) < (x184001_2.length : Int) then ((carets_low.f ((rd_T100 x184001_2 (wrap64 ((x184001_2.length : Int) - 1))).f0) ((rd_T100 x184001_2 (wrap64 ((x184001_2.length : Int) - 1))).f1)).bind fun t194 => ((carets_high.f ((rd_T100 x184001_2 (wrap64 ((x184001_2.length : Int) - 1))).f0) ((rd_T100 x184001_2 (wrap64 ((x184001_2.length : Int) - 1))).f1)).bind fun t195 => ((carets_high.f ((rd_T100 x54_2 x56_2).f0) ((rd_T100 x54_2 x56_2).f1)).bind fun t196 => (if ((rd_T100 x54_2 x56_2).f1) ≥ ((rd_T100 x54_2 x56_2).f0) then (carets_settled.l1 kj21 x54_2 (x6_1.length : Int) (wrap64 (x56_2 + 1)) a0 (x184001_2.set ((wrap64 ((x184001_2.length : Int) - 1)) : Int).toNat (⟨t194, mx t195 t196⟩ : S100))) else (carets_settled.l1 kj21 x54_2 (x6_1.length : Int) (wrap64 (x56_2 + 1)) a0 (x184001_2.set ((wrap64 ((x184001_2.length : Int) - 1)) : Int).toNat (⟨mx t195 t196, t194⟩ : S100))))))) else (none)) else (none)) = some (r1, r2) := by rw [if_neg (show ¬ (false = true) by decide)] at H; exact H
            clear H
            have H := H1
            clear H1
            by_cases c45 : 0 ≤ (wrap64 ((x184001_2.length : Int) - 1))
            ·rw [if_pos c45] at H
             have c45b0 : decide (0 ≤ (wrap64 ((x184001_2.length : Int) - 1))) = true := decide_eq_true c45
             have c45b0z := c45b0
             (try simp only [hl54_2] at c45b0z)
             clear c45
             by_cases c46 : (wrap64 ((x184001_2.length : Int) - 1)) < (x184001_2.length : Int)
             ·rw [if_pos c46] at H
              have c46b0 : decide ((wrap64 ((x184001_2.length : Int) - 1)) < (x184001_2.length : Int)) = true := decide_eq_true c46
              have c46b0z := c46b0
              (try simp only [hl54_2] at c46b0z)
              clear c46
              replace H := Option.bind_eq_some_iff.mp H
              obtain ⟨t194, A470, H⟩ := H
              replace H : ((carets_high.f ((rd_T100 x184001_2 (wrap64 ((x184001_2.length : Int) - 1))).f0) ((rd_T100 x184001_2 (wrap64 ((x184001_2.length : Int) - 1))).f1)).bind fun t195 => ((carets_high.f ((rd_T100 x54_2 x56_2).f0) ((rd_T100 x54_2 x56_2).f1)).bind fun t196 => (if ((rd_T100 x54_2 x56_2).f1) ≥ ((rd_T100 x54_2 x56_2).f0) then (carets_settled.l1 kj21 x54_2 (x6_1.length : Int) (wrap64 (x56_2 + 1)) a0 (x184001_2.set ((wrap64 ((x184001_2.length : Int) - 1)) : Int).toNat (⟨t194, mx t195 t196⟩ : S100))) else (carets_settled.l1 kj21 x54_2 (x6_1.length : Int) (wrap64 (x56_2 + 1)) a0 (x184001_2.set ((wrap64 ((x184001_2.length : Int) - 1)) : Int).toNat (⟨mx t195 t196, t194⟩ : S100)))))) = some (r1, r2) := H
              have A47 := Aside0.mk A470
              clear A470
              replace H := Option.bind_eq_some_iff.mp H
              obtain ⟨t195, A480, H⟩ := H
              replace H : ((carets_high.f ((rd_T100 x54_2 x56_2).f0) ((rd_T100 x54_2 x56_2).f1)).bind fun t196 => (if ((rd_T100 x54_2 x56_2).f1) ≥ ((rd_T100 x54_2 x56_2).f0) then (carets_settled.l1 kj21 x54_2 (x6_1.length : Int) (wrap64 (x56_2 + 1)) a0 (x184001_2.set ((wrap64 ((x184001_2.length : Int) - 1)) : Int).toNat (⟨t194, mx t195 t196⟩ : S100))) else (carets_settled.l1 kj21 x54_2 (x6_1.length : Int) (wrap64 (x56_2 + 1)) a0 (x184001_2.set ((wrap64 ((x184001_2.length : Int) - 1)) : Int).toNat (⟨mx t195 t196, t194⟩ : S100))))) = some (r1, r2) := H
              have A48 := Aside0.mk A480
              clear A480
              replace H := Option.bind_eq_some_iff.mp H
              obtain ⟨t196, A490, H⟩ := H
              replace H : (if ((rd_T100 x54_2 x56_2).f1) ≥ ((rd_T100 x54_2 x56_2).f0) then (carets_settled.l1 kj21 x54_2 (x6_1.length : Int) (wrap64 (x56_2 + 1)) a0 (x184001_2.set ((wrap64 ((x184001_2.length : Int) - 1)) : Int).toNat (⟨t194, mx t195 t196⟩ : S100))) else (carets_settled.l1 kj21 x54_2 (x6_1.length : Int) (wrap64 (x56_2 + 1)) a0 (x184001_2.set ((wrap64 ((x184001_2.length : Int) - 1)) : Int).toNat (⟨mx t195 t196, t194⟩ : S100)))) = some (r1, r2) := H
              have A49 := Aside0.mk A490
              clear A490
              obtain ⟨ji50, hji50⟩ : ∃ j_ : Int, (mx t195 t196) = j_ := ⟨_, rfl⟩
              replace H : (if ((rd_T100 x54_2 x56_2).f1) ≥ ((rd_T100 x54_2 x56_2).f0) then (carets_settled.l1 kj21 x54_2 (x6_1.length : Int) (wrap64 (x56_2 + 1)) a0 (x184001_2.set ((wrap64 ((x184001_2.length : Int) - 1)) : Int).toNat (⟨t194, ji50⟩ : S100))) else (carets_settled.l1 kj21 x54_2 (x6_1.length : Int) (wrap64 (x56_2 + 1)) a0 (x184001_2.set ((wrap64 ((x184001_2.length : Int) - 1)) : Int).toNat (⟨ji50, t194⟩ : S100)))) = some (r1, r2) := by first | (rw [hji50] at H; exact H) | (simp only [hji50] at H ⊢; exact H)
              (try rw [hji50] at A47)
              (try rw [hji50] at A48)
              (try rw [hji50] at A49)
              have hji50_ : (if t195 < t196 then t196 else t195) = ji50 := hji50
              by_cases c51 : ((rd_T100 x54_2 x56_2).f1) ≥ ((rd_T100 x54_2 x56_2).f0)
              ·rw [if_pos c51] at H
               have c51b0 : decide (((rd_T100 x54_2 x56_2).f0) ≤ ((rd_T100 x54_2 x56_2).f1)) = true := decide_eq_true c51
               clear c51
               obtain ⟨y197, hy197⟩ : ∃ y_ : List (S100), y_ = (x184001_2.set ((wrap64 ((x184001_2.length : Int) - 1)) : Int).toNat (⟨t194, ji50⟩ : S100)) := ⟨_, rfl⟩
               replace H : (carets_settled.l1 kj21 x54_2 (x6_1.length : Int) (wrap64 (x56_2 + 1)) a0 y197) = some (r1, r2) := by first | (rw [hy197]; with_reducible exact H) | (have H2_ := (Option.bind_some _ _).symm.trans H; rw [hy197]; with_reducible exact H2_) | (have H2_ := (Option.bind_some _ _).symm.trans H; with_reducible exact H2_) | with_reducible exact H | (rw [hy197]; exact H) | exact H
               have Ny197 := Aside0.mk hy197
               clear hy197
               have H' := Aside0.mk H
               clear H
               have hnb53 := NB183_185.out
               have hnc53 := NB185_183.out
               have hcz54_0 : wc.cell? ⟨gb183, 0, none⟩ = some (.string a0) := (blk_cell BK183.out 0).trans rfl
               have hcz54_1 : wc.cell? ⟨gb183, 1, none⟩ = some (.slice Ao27 x184001_2.length co27) := (blk_cell BK183.out 1).trans rfl
               have hfz54_0 := blk_frozen BK183.out 0
               have hfz54_1 := blk_frozen BK183.out 1
               have p192 : 0 ≤ ((wrap64 ((x184001_2.length : Int) - 1)) : Int) := of_decide_eq_true (by first | (with_reducible assumption) | assumption)
               have q192 : (wrap64 ((x184001_2.length : Int) - 1)) < (x184001_2.length : Int) := of_decide_eq_true (by first | (with_reducible assumption) | assumption)
               obtain ⟨ad192, e192, hx192_0, hx192_1⟩ := at_T100 (Kd.R_reads' HO_184001.out).2.2 (wrap64 ((x184001_2.length : Int) - 1)) p192 q192
               cases e192
               (try simp only [hl54_2] at p192)
               (try simp only [hl54_2] at q192)
               (try simp only [hl54_2] at hx192_0)
               (try simp only [hl54_2] at hx192_1)
               replace p192 := eq_true p192
               replace q192 := eq_true q192
               try go_wp2_with (first | ((with_reducible refine gate_dst (N := 17) rfl ?_); refine box_event ?hg (N := 17) ?hd (cs := #[.int .i64 0, .int .i64 0]) (t := 100) ?hr ?_; (case hd => rfl); (case hg => rfl); (case hr => first | (go_simp; done) | (go_simp; rfl)); intro gb193 hg w55 hbox hb; have n0_ := Aside0.mk (Kd.R_below (Kd.R_elderB (by (with_reducible repeat (first | apply Kd.R_alloc | apply Kd.R_drewN | apply Kd.R_drew)); exact HO_54.out) gb193 (Nat.le_of_eq hg.symm)) hb); have n1_ := Aside0.mk (Kd.R_below (Kd.R_elderB (by (with_reducible repeat (first | apply Kd.R_alloc | apply Kd.R_drewN | apply Kd.R_drew)); exact HO_184001.out) gb193 (Nat.le_of_eq hg.symm)) hb); have n2_ := Aside0.mk (blk_below (g := gb183) (o := .cells #[.string a0, .slice (some ad192) x184001_2.length co27] 103 (0, 0)) (by (with_reducible repeat (first | refine blk_drewN ?_ _ | refine blk_drew ?_ | refine blk_alloc ?_ _)); exact BK183.out) hb); have n3_ := Aside0.mk (blk_below (g := gb185) (o := .cells #[.int .i64 ((rd_T100 x54_2 x56_2).f0), .int .i64 ((rd_T100 x54_2 x56_2).f1)] 100 (0, 0)) (by (with_reducible repeat (first | refine blk_drewN ?_ _ | refine blk_drew ?_ | refine blk_alloc ?_ _)); exact BK185.out) hb); have n4_ := Aside0.mk (below_step HB.out hb); have n5_ := Aside0.mk (below_step (by repeat (first | (with_reducible first | exact HB.out | apply below_alloc | apply pw_below_drewN | apply below_drew1 | refine below_set ?_ GE183.out | refine below_set ?_ GE185.out) | exact HB.out)) hb); have n6_ := Aside0.mk (hbox); have n7_ := Aside0.mk ((by rw [hg]; exact (below_size (by repeat (first | (with_reducible first | exact HB.out | apply below_alloc | apply pw_below_drewN | apply below_drew1 | refine below_set ?_ GW183.out | refine below_set ?_ GW185.out) | exact HB.out))) : w1_.heap.size ≤ gb193)); have n8_ := Aside0.mk ((Nat.le_trans HW0.out (by rw [hg]; exact (below_size (by repeat (first | (with_reducible first | exact HB.out | apply below_alloc | apply pw_below_drewN | apply below_drew1 | refine below_set ?_ GW183.out | refine below_set ?_ GW185.out) | exact HB.out))) : w1_.heap.size ≤ gb193) : w1_.heap.size ≤ gb193)); have n9_ := Aside0.mk ((by rw [hg]; exact Nat.ne_of_lt (blk_lt (g := gb183) (o := .cells #[.string a0, .slice (some ad192) x184001_2.length co27] 103 (0, 0)) (by (with_reducible repeat (first | refine blk_drewN ?_ _ | refine blk_drew ?_ | refine blk_alloc ?_ _)); exact BK183.out)) : gb183 ≠ gb193)); have n10_ := Aside0.mk ((by rw [hg]; exact Nat.ne_of_gt (blk_lt (g := gb183) (o := .cells #[.string a0, .slice (some ad192) x184001_2.length co27] 103 (0, 0)) (by (with_reducible repeat (first | refine blk_drewN ?_ _ | refine blk_drew ?_ | refine blk_alloc ?_ _)); exact BK183.out)) : gb193 ≠ gb183)); have n11_ := Aside0.mk ((by rw [hg]; exact Nat.ne_of_lt (blk_lt (g := gb185) (o := .cells #[.int .i64 ((rd_T100 x54_2 x56_2).f0), .int .i64 ((rd_T100 x54_2 x56_2).f1)] 100 (0, 0)) (by (with_reducible repeat (first | refine blk_drewN ?_ _ | refine blk_drew ?_ | refine blk_alloc ?_ _)); exact BK185.out)) : gb185 ≠ gb193)); have n12_ := Aside0.mk ((by rw [hg]; exact Nat.ne_of_gt (blk_lt (g := gb185) (o := .cells #[.int .i64 ((rd_T100 x54_2 x56_2).f0), .int .i64 ((rd_T100 x54_2 x56_2).f1)] 100 (0, 0)) (by (with_reducible repeat (first | refine blk_drewN ?_ _ | refine blk_drew ?_ | refine blk_alloc ?_ _)); exact BK185.out)) : gb193 ≠ gb185)); clear HO_54; clear HO_184001; clear BK183; clear BK185; clear HBW; clear HB; have HO_54 := n0_; have HO_184001 := n1_; have BK183 := n2_; have BK185 := n3_; have HBW := n4_; have HB := n5_; have BK193 := n6_; have GW193 := n7_; have GE193 := n8_; have NB183_193 := n9_; have NB193_183 := n10_; have NB185_193 := n11_; have NB193_185 := n12_; clear n0_ n1_ n2_ n3_ n4_ n5_ n6_ n7_ n8_ n9_ n10_ n11_ n12_; clear hb hbox hg; have hnb56 := NB193_183.out; have hnc56 := NB183_193.out; have hnb57 := NB193_185.out; have hnc57 := NB185_193.out; have hcz58_0 : w55.cell? ⟨gb193, 0, none⟩ = some (.int .i64 0) := (blk_cell BK193.out 0).trans rfl; have hcz58_1 : w55.cell? ⟨gb193, 1, none⟩ = some (.int .i64 0) := (blk_cell BK193.out 1).trans rfl; have hfz58_0 := blk_frozen BK193.out 0; have hfz58_1 := blk_frozen BK193.out 1))
               have n0_ : Aside0 (Kd.R k100 100 ((w55.setCell ⟨gb193, 0, none⟩ (.int .i64 ((rd_T100 x184001_2 (wrap64 ((x184001_2.length : Int) - 1))).f0))).setCell ⟨gb193, 1, none⟩ (.int .i64 ((rd_T100 x184001_2 (wrap64 ((x184001_2.length : Int) - 1))).f1))) w1_.heap.size (fun k_ => some k_ ≠ (.slice (some ad192) x184001_2.length co27 : Value).ownBlock ∧ k_ ≠ gb185 ∧ k_ ≠ gb193) (.slice (some ad184) x54_2.length co16) x54_2) := ⟨by (with_reducible repeat (first | apply Kd.R_alloc | apply Kd.R_drewN | apply Kd.R_drew)); exact Kd.R_mono (Kd.R_far (p := ⟨gb193, 1, none⟩) (Kd.R_far (p := ⟨gb193, 0, none⟩) (Kd.R_mono HO_54.out (fun k_ hk => (⟨hk, hk.2⟩ : _ ∧ k_ ≠ gb193))) (fun _ hk => hk.2) (.int .i64 ((rd_T100 x184001_2 (wrap64 ((x184001_2.length : Int) - 1))).f0))) (fun _ hk => hk.2) (.int .i64 ((rd_T100 x184001_2 (wrap64 ((x184001_2.length : Int) - 1))).f1))) (fun _ hk => ⟨hk.1.1.1, ⟨hk.1.1.2, hk.1.2⟩⟩)⟩
               have n1_ : Aside0 (Kd.R k100 100 ((w55.setCell ⟨gb193, 0, none⟩ (.int .i64 ((rd_T100 x184001_2 (wrap64 ((x184001_2.length : Int) - 1))).f0))).setCell ⟨gb193, 1, none⟩ (.int .i64 ((rd_T100 x184001_2 (wrap64 ((x184001_2.length : Int) - 1))).f1))) w1_.heap.size (fun k_ => some k_ ≠ (.slice (some ad184) x54_2.length co16 : Value).ownBlock ∧ k_ ≠ gb185 ∧ k_ ≠ gb193) (.slice (some ad192) x184001_2.length co27) x184001_2) := ⟨by (with_reducible repeat (first | apply Kd.R_alloc | apply Kd.R_drewN | apply Kd.R_drew)); exact Kd.R_mono (Kd.R_far (p := ⟨gb193, 1, none⟩) (Kd.R_far (p := ⟨gb193, 0, none⟩) (Kd.R_mono HO_184001.out (fun k_ hk => (⟨hk, hk.2⟩ : _ ∧ k_ ≠ gb193))) (fun _ hk => hk.2) (.int .i64 ((rd_T100 x184001_2 (wrap64 ((x184001_2.length : Int) - 1))).f0))) (fun _ hk => hk.2) (.int .i64 ((rd_T100 x184001_2 (wrap64 ((x184001_2.length : Int) - 1))).f1))) (fun _ hk => ⟨hk.1.1.1, ⟨hk.1.1.2, hk.1.2⟩⟩)⟩
               have n2_ : Aside0 (((w55.setCell ⟨gb193, 0, none⟩ (.int .i64 ((rd_T100 x184001_2 (wrap64 ((x184001_2.length : Int) - 1))).f0))).setCell ⟨gb193, 1, none⟩ (.int .i64 ((rd_T100 x184001_2 (wrap64 ((x184001_2.length : Int) - 1))).f1))).heap[gb183]? = some (.cells #[.string a0, .slice (some ad192) x184001_2.length co27] 103 (0, 0))) := ⟨by (with_reducible repeat (first | refine blk_drewN ?_ _ | refine blk_drew ?_ | refine blk_alloc ?_ _)); refine blk_far ?_ NB183_193.out _; (with_reducible repeat (first | refine blk_drewN ?_ _ | refine blk_drew ?_ | refine blk_alloc ?_ _)); refine blk_far ?_ NB183_193.out _; (with_reducible repeat (first | refine blk_drewN ?_ _ | refine blk_drew ?_ | refine blk_alloc ?_ _)); exact BK183.out⟩
               have n3_ : Aside0 (((w55.setCell ⟨gb193, 0, none⟩ (.int .i64 ((rd_T100 x184001_2 (wrap64 ((x184001_2.length : Int) - 1))).f0))).setCell ⟨gb193, 1, none⟩ (.int .i64 ((rd_T100 x184001_2 (wrap64 ((x184001_2.length : Int) - 1))).f1))).heap[gb185]? = some (.cells #[.int .i64 ((rd_T100 x54_2 x56_2).f0), .int .i64 ((rd_T100 x54_2 x56_2).f1)] 100 (0, 0))) := ⟨by (with_reducible repeat (first | refine blk_drewN ?_ _ | refine blk_drew ?_ | refine blk_alloc ?_ _)); refine blk_far ?_ NB185_193.out _; (with_reducible repeat (first | refine blk_drewN ?_ _ | refine blk_drew ?_ | refine blk_alloc ?_ _)); refine blk_far ?_ NB185_193.out _; (with_reducible repeat (first | refine blk_drewN ?_ _ | refine blk_drew ?_ | refine blk_alloc ?_ _)); exact BK185.out⟩
               have n4_ : Aside0 (((w55.setCell ⟨gb193, 0, none⟩ (.int .i64 ((rd_T100 x184001_2 (wrap64 ((x184001_2.length : Int) - 1))).f0))).setCell ⟨gb193, 1, none⟩ (.int .i64 ((rd_T100 x184001_2 (wrap64 ((x184001_2.length : Int) - 1))).f1))).heap[gb193]? = some (.cells #[.int .i64 ((rd_T100 x184001_2 (wrap64 ((x184001_2.length : Int) - 1))).f0), .int .i64 ((rd_T100 x184001_2 (wrap64 ((x184001_2.length : Int) - 1))).f1)] 100 (0, 0))) := ⟨by (with_reducible repeat (first | refine blk_drewN ?_ _ | refine blk_drew ?_ | refine blk_alloc ?_ _)); refine blk_put (cs := #[.int .i64 ((rd_T100 x184001_2 (wrap64 ((x184001_2.length : Int) - 1))).f0), .int .i64 0]) ?_ 1 _ rfl; (with_reducible repeat (first | refine blk_drewN ?_ _ | refine blk_drew ?_ | refine blk_alloc ?_ _)); refine blk_put (cs := #[.int .i64 0, .int .i64 0]) ?_ 0 _ rfl; (with_reducible repeat (first | refine blk_drewN ?_ _ | refine blk_drew ?_ | refine blk_alloc ?_ _)); exact BK193.out⟩
               have n5_ : Aside0 (Below w1_.heap.size w1_ ((w55.setCell ⟨gb193, 0, none⟩ (.int .i64 ((rd_T100 x184001_2 (wrap64 ((x184001_2.length : Int) - 1))).f0))).setCell ⟨gb193, 1, none⟩ (.int .i64 ((rd_T100 x184001_2 (wrap64 ((x184001_2.length : Int) - 1))).f1)))) := ⟨by repeat (first | (with_reducible first | exact HB.out | apply below_alloc | apply pw_below_drewN | apply below_drew1 | refine below_set ?_ GE183.out | refine below_set ?_ GE185.out | refine below_set ?_ GE193.out) | exact HB.out)⟩
               (try clear HO_54)
               (try clear HO_184001)
               (try clear BK183)
               (try clear BK185)
               (try clear BK193)
               (try clear HB)
               generalize ((w55.setCell ⟨gb193, 0, none⟩ (.int .i64 ((rd_T100 x184001_2 (wrap64 ((x184001_2.length : Int) - 1))).f0))).setCell ⟨gb193, 1, none⟩ (.int .i64 ((rd_T100 x184001_2 (wrap64 ((x184001_2.length : Int) - 1))).f1))) = w59 at n0_ n1_ n2_ n3_ n4_ n5_ ⊢
               have HO_54 := n0_
               have HO_184001 := n1_
               have BK183 := n2_
               have BK185 := n3_
               have BK193 := n4_
               have HB := n5_
               clear n0_ n1_ n2_ n3_ n4_ n5_
               have n0_ := Aside0.mk (Kd.R_drew HO_54.out)
               have n1_ := Aside0.mk (Kd.R_drew HO_184001.out)
               have n2_ := Aside0.mk (blk_drew BK183.out)
               have n3_ := Aside0.mk (blk_drew BK185.out)
               have n4_ := Aside0.mk (blk_drew BK193.out)
               have n5_ := Aside0.mk (below_drew1 HB.out)
               clear HO_54 HO_184001 BK183 BK185 BK193 HB
               have HO_54 := n0_
               have HO_184001 := n1_
               have BK183 := n2_
               have BK185 := n3_
               have BK193 := n4_
               have HB := n5_
               clear n0_ n1_ n2_ n3_ n4_ n5_
               refine start_ (n := 9) (S := fun w' => w'.cell? ⟨gb193, 0, none⟩ = some (.int .i64 ((rd_T100 x184001_2 (wrap64 ((x184001_2.length : Int) - 1))).f0)) ∧ w'.cell? ⟨gb193, 1, none⟩ = some (.int .i64 ((rd_T100 x184001_2 (wrap64 ((x184001_2.length : Int) - 1))).f1)) ∧ w'.cell? ⟨gb185, 0, none⟩ = some (.int .i64 ((rd_T100 x54_2 x56_2).f0)) ∧ w'.cell? ⟨gb185, 1, none⟩ = some (.int .i64 ((rd_T100 x54_2 x56_2).f1))) (ds := []) #[false, false, false, false, false, false, false, false, false] (by kernel_rfl) rfl rfl ⟨(blk_cell BK193.out 0).trans rfl, (blk_cell BK193.out 1).trans rfl, (blk_cell BK185.out 0).trans rfl, (blk_cell BK185.out 1).trans rfl⟩ (fun hHeld => ?_); refine with_tabW carets_settled.tab19 carets_settled.bits19 (fun HT_ HW_ => ?_)
               generalize w59.drew = w60 at HO_54 HO_184001 BK183 BK185 BK193 HB hHeld ⊢
               refine take_ (i := 0) (N := some 99) (v := ?_) (a' := ?_) #[true, false, false, false, false, false, false, false, false] rfl rfl (take_ofW HT_.out HW_.out (by kernel_rfl)) (fun _ _ _ h => h) (Or.inl ⟨by rfl, ?_⟩) hHeld ?_ ?_
               rotate_left
               ·rintro w' ⟨s0, s1, s2, s3⟩
                go_simp
                with_reducible rfl
               rotate_left; ·(simp only [Act.put, List.setIfInBounds_toArray, List.set_cons_zero, List.set_cons_succ, i64_w, i32_w]; rfl)
               refine take_ (i := 2) (N := some 101) (v := ?_) (a' := ?_) #[true, false, true, false, false, false, false, false, false] rfl rfl (take_ofW HT_.out HW_.out (by kernel_rfl)) (fun _ _ _ h => h) (Or.inl ⟨by rfl, ?_⟩) hHeld ?_ ?_
               rotate_left
               ·rintro w' ⟨s0, s1, s2, s3⟩
                go_simp
                with_reducible rfl
               rotate_left; ·(simp only [Act.put, List.setIfInBounds_toArray, List.set_cons_zero, List.set_cons_succ, i64_w, i32_w]; rfl)
               refine take_ (i := 4) (N := some 103) (v := ?_) (a' := ?_) #[true, false, true, false, true, false, false, false, false] rfl rfl (take_ofW HT_.out HW_.out (by kernel_rfl)) (fun _ _ _ h => h) (Or.inl ⟨by rfl, ?_⟩) hHeld ?_ ?_
               rotate_left
               ·rintro w' ⟨s0, s1, s2, s3⟩
                go_simp
                with_reducible rfl
               rotate_left; ·(simp only [Act.put, List.setIfInBounds_toArray, List.set_cons_zero, List.set_cons_succ, i64_w, i32_w]; rfl)
               refine one_ (i := 1) (N := some 100) #[true, true, true, false, true, false, false, false, false] rfl rfl (one_of HT_.out (by kernel_rfl)) (by decide) (fun K hK => ?_)
               refine goes_ Tryd.func75 (by kernel_rfl) rfl #[.agg #[.int .i64 ((rd_T100 x184001_2 (wrap64 ((x184001_2.length : Int) - 1))).f0), .int .i64 ((rd_T100 x184001_2 (wrap64 ((x184001_2.length : Int) - 1))).f1)]] (by rfl) rfl rfl (by (try simp only [List.map_toArray, List.map_cons, List.map_nil]); first | done | rfl | (simp only [List.length_drop, List.length_take]; rfl)) ?_
               with_reducible refine (carets_low.calls ((rd_T100 x184001_2 (wrap64 ((x184001_2.length : Int) - 1))).f0) ((rd_T100 x184001_2 (wrap64 ((x184001_2.length : Int) - 1))).f1) t194 _ A47.out).mono ?_
               rintro e w61 ⟨rfl, hb⟩
               refine ⟨_, rfl, ?_⟩
               have n0_ := Aside0.mk (Kd.R_below (by (with_reducible repeat (first | apply Kd.R_alloc | apply Kd.R_drewN | apply Kd.R_drew)); exact HO_54.out) hb)
               have n1_ := Aside0.mk (Kd.R_below (by (with_reducible repeat (first | apply Kd.R_alloc | apply Kd.R_drewN | apply Kd.R_drew)); exact HO_184001.out) hb)
               have n2_ := Aside0.mk (blk_below (g := gb183) (o := .cells #[.string a0, .slice (some ad192) x184001_2.length co27] 103 (0, 0)) (by (with_reducible repeat (first | refine blk_drewN ?_ _ | refine blk_drew ?_ | refine blk_alloc ?_ _)); exact BK183.out) hb)
               have n3_ := Aside0.mk (blk_below (g := gb185) (o := .cells #[.int .i64 ((rd_T100 x54_2 x56_2).f0), .int .i64 ((rd_T100 x54_2 x56_2).f1)] 100 (0, 0)) (by (with_reducible repeat (first | refine blk_drewN ?_ _ | refine blk_drew ?_ | refine blk_alloc ?_ _)); exact BK185.out) hb)
               have n4_ := Aside0.mk (blk_below (g := gb193) (o := .cells #[.int .i64 ((rd_T100 x184001_2 (wrap64 ((x184001_2.length : Int) - 1))).f0), .int .i64 ((rd_T100 x184001_2 (wrap64 ((x184001_2.length : Int) - 1))).f1)] 100 (0, 0)) (by (with_reducible repeat (first | refine blk_drewN ?_ _ | refine blk_drew ?_ | refine blk_alloc ?_ _)); exact BK193.out) hb)
               have n5_ := Aside0.mk (below_step (by repeat (first | (with_reducible first | exact HB.out | apply below_alloc | apply pw_below_drewN | apply below_drew1 | refine below_set ?_ GE183.out | refine below_set ?_ GE185.out | refine below_set ?_ GE193.out) | exact HB.out)) hb)
               clear HO_54 HO_184001 BK183 BK185 BK193 HB
               have HO_54 := n0_
               have HO_184001 := n1_
               have BK183 := n2_
               have BK185 := n3_
               have BK193 := n4_
               have HB := n5_
               clear n0_ n1_ n2_ n3_ n4_ n5_
               (try clear hb)
               (try clear hb2)
               (try clear hk)
               (try clear hi)
               refine hK.out _ _ ⟨(blk_cell BK193.out 0).trans rfl, (blk_cell BK193.out 1).trans rfl, (blk_cell BK185.out 0).trans rfl, (blk_cell BK185.out 1).trans rfl⟩ (fun hHeld => ?_)
               clear hK K
               refine norm_ (a' := ?_) ?_ ?_
               rotate_left
               ·show Act.put _ (some 100) _ = _
                simp only [Act.put, List.setIfInBounds_toArray, List.set_cons_zero, List.set_cons_succ, i64_w, i32_w]
                rfl
               refine one_ (i := 3) (N := some 102) #[true, true, true, true, true, false, false, false, false] rfl rfl (one_of HT_.out (by kernel_rfl)) (by decide) (fun K hK => ?_)
               refine goes_ Tryd.func76 (by kernel_rfl) rfl #[.agg #[.int .i64 ((rd_T100 x184001_2 (wrap64 ((x184001_2.length : Int) - 1))).f0), .int .i64 ((rd_T100 x184001_2 (wrap64 ((x184001_2.length : Int) - 1))).f1)]] (by rfl) rfl rfl (by (try simp only [List.map_toArray, List.map_cons, List.map_nil]); first | done | rfl | (simp only [List.length_drop, List.length_take]; rfl)) ?_
               with_reducible refine (carets_high.calls ((rd_T100 x184001_2 (wrap64 ((x184001_2.length : Int) - 1))).f0) ((rd_T100 x184001_2 (wrap64 ((x184001_2.length : Int) - 1))).f1) t195 _ A48.out).mono ?_
               rintro e w62 ⟨rfl, hb⟩
               refine ⟨_, rfl, ?_⟩
               have n0_ := Aside0.mk (Kd.R_below (by (with_reducible repeat (first | apply Kd.R_alloc | apply Kd.R_drewN | apply Kd.R_drew)); exact HO_54.out) hb)
               have n1_ := Aside0.mk (Kd.R_below (by (with_reducible repeat (first | apply Kd.R_alloc | apply Kd.R_drewN | apply Kd.R_drew)); exact HO_184001.out) hb)
               have n2_ := Aside0.mk (blk_below (g := gb183) (o := .cells #[.string a0, .slice (some ad192) x184001_2.length co27] 103 (0, 0)) (by (with_reducible repeat (first | refine blk_drewN ?_ _ | refine blk_drew ?_ | refine blk_alloc ?_ _)); exact BK183.out) hb)
               have n3_ := Aside0.mk (blk_below (g := gb185) (o := .cells #[.int .i64 ((rd_T100 x54_2 x56_2).f0), .int .i64 ((rd_T100 x54_2 x56_2).f1)] 100 (0, 0)) (by (with_reducible repeat (first | refine blk_drewN ?_ _ | refine blk_drew ?_ | refine blk_alloc ?_ _)); exact BK185.out) hb)
               have n4_ := Aside0.mk (blk_below (g := gb193) (o := .cells #[.int .i64 ((rd_T100 x184001_2 (wrap64 ((x184001_2.length : Int) - 1))).f0), .int .i64 ((rd_T100 x184001_2 (wrap64 ((x184001_2.length : Int) - 1))).f1)] 100 (0, 0)) (by (with_reducible repeat (first | refine blk_drewN ?_ _ | refine blk_drew ?_ | refine blk_alloc ?_ _)); exact BK193.out) hb)
               have n5_ := Aside0.mk (below_step (by repeat (first | (with_reducible first | exact HB.out | apply below_alloc | apply pw_below_drewN | apply below_drew1 | refine below_set ?_ GE183.out | refine below_set ?_ GE185.out | refine below_set ?_ GE193.out) | exact HB.out)) hb)
               clear HO_54 HO_184001 BK183 BK185 BK193 HB
               have HO_54 := n0_
               have HO_184001 := n1_
               have BK183 := n2_
               have BK185 := n3_
               have BK193 := n4_
               have HB := n5_
               clear n0_ n1_ n2_ n3_ n4_ n5_
               (try clear hb)
               (try clear hb2)
               (try clear hk)
               (try clear hi)
               refine hK.out _ _ ⟨(blk_cell BK193.out 0).trans rfl, (blk_cell BK193.out 1).trans rfl, (blk_cell BK185.out 0).trans rfl, (blk_cell BK185.out 1).trans rfl⟩ (fun hHeld => ?_)
               clear hK K
               refine norm_ (a' := ?_) ?_ ?_
               rotate_left
               ·show Act.put _ (some 102) _ = _
                simp only [Act.put, List.setIfInBounds_toArray, List.set_cons_zero, List.set_cons_succ, i64_w, i32_w]
                rfl
               refine one_ (i := 5) (N := some 104) #[true, true, true, true, true, true, false, false, false] rfl rfl (one_of HT_.out (by kernel_rfl)) (by decide) (fun K hK => ?_)
               refine goes_ Tryd.func76 (by kernel_rfl) rfl #[.agg #[.int .i64 ((rd_T100 x54_2 x56_2).f0), .int .i64 ((rd_T100 x54_2 x56_2).f1)]] (by rfl) rfl rfl (by (try simp only [List.map_toArray, List.map_cons, List.map_nil]); first | done | rfl | (simp only [List.length_drop, List.length_take]; rfl)) ?_
               with_reducible refine (carets_high.calls ((rd_T100 x54_2 x56_2).f0) ((rd_T100 x54_2 x56_2).f1) t196 _ A49.out).mono ?_
               rintro e w63 ⟨rfl, hb⟩
               refine ⟨_, rfl, ?_⟩
               have n0_ := Aside0.mk (Kd.R_below (by (with_reducible repeat (first | apply Kd.R_alloc | apply Kd.R_drewN | apply Kd.R_drew)); exact HO_54.out) hb)
               have n1_ := Aside0.mk (Kd.R_below (by (with_reducible repeat (first | apply Kd.R_alloc | apply Kd.R_drewN | apply Kd.R_drew)); exact HO_184001.out) hb)
               have n2_ := Aside0.mk (blk_below (g := gb183) (o := .cells #[.string a0, .slice (some ad192) x184001_2.length co27] 103 (0, 0)) (by (with_reducible repeat (first | refine blk_drewN ?_ _ | refine blk_drew ?_ | refine blk_alloc ?_ _)); exact BK183.out) hb)
               have n3_ := Aside0.mk (blk_below (g := gb185) (o := .cells #[.int .i64 ((rd_T100 x54_2 x56_2).f0), .int .i64 ((rd_T100 x54_2 x56_2).f1)] 100 (0, 0)) (by (with_reducible repeat (first | refine blk_drewN ?_ _ | refine blk_drew ?_ | refine blk_alloc ?_ _)); exact BK185.out) hb)
               have n4_ := Aside0.mk (blk_below (g := gb193) (o := .cells #[.int .i64 ((rd_T100 x184001_2 (wrap64 ((x184001_2.length : Int) - 1))).f0), .int .i64 ((rd_T100 x184001_2 (wrap64 ((x184001_2.length : Int) - 1))).f1)] 100 (0, 0)) (by (with_reducible repeat (first | refine blk_drewN ?_ _ | refine blk_drew ?_ | refine blk_alloc ?_ _)); exact BK193.out) hb)
               have n5_ := Aside0.mk (below_step (by repeat (first | (with_reducible first | exact HB.out | apply below_alloc | apply pw_below_drewN | apply below_drew1 | refine below_set ?_ GE183.out | refine below_set ?_ GE185.out | refine below_set ?_ GE193.out) | exact HB.out)) hb)
               clear HO_54 HO_184001 BK183 BK185 BK193 HB
               have HO_54 := n0_
               have HO_184001 := n1_
               have BK183 := n2_
               have BK185 := n3_
               have BK193 := n4_
               have HB := n5_
               clear n0_ n1_ n2_ n3_ n4_ n5_
               (try clear hb)
               (try clear hb2)
               (try clear hk)
               (try clear hi)
               refine hK.out _ _ ⟨(blk_cell BK193.out 0).trans rfl, (blk_cell BK193.out 1).trans rfl, (blk_cell BK185.out 0).trans rfl, (blk_cell BK185.out 1).trans rfl⟩ (fun hHeld => ?_)
               clear hK K
               refine norm_ (a' := ?_) ?_ ?_
               rotate_left
               ·show Act.put _ (some 104) _ = _
                simp only [Act.put, List.setIfInBounds_toArray, List.set_cons_zero, List.set_cons_succ, i64_w, i32_w]
                rfl
               refine pure_ (i := 6) (N := some 105) (v := ?_) (a' := ?_) #[true, true, true, true, true, true, true, false, false] rfl rfl (any_of HT_.out (by kernel_rfl)) (fun _ _ _ h => h) (Or.inl ⟨by rfl, ?_⟩) ?_ ?_
               rotate_left; ·(intro w'; go_simp; with_reducible rfl)
               rotate_left; ·(simp only [Act.put, List.setIfInBounds_toArray, List.set_cons_zero, List.set_cons_succ, i64_w, i32_w]; rfl)
               refine pure_ (i := 7) (N := some 18) (v := ?_) (a' := ?_) #[true, true, true, true, true, true, true, true, false] rfl rfl (any_of HT_.out (by kernel_rfl)) (fun _ _ _ h => h) (Or.inl ⟨by rfl, ?_⟩) ?_ ?_
               rotate_left; ·(intro w'; go_simp; with_reducible rfl)
               rotate_left; ·(simp only [Act.put, List.setIfInBounds_toArray, List.set_cons_zero, List.set_cons_succ, i64_w, i32_w]; rfl)
               refine pure_ (i := 8) (N := some 19) (v := ?_) (a' := ?_) #[true, true, true, true, true, true, true, true, true] rfl rfl (any_of HT_.out (by kernel_rfl)) (fun _ _ _ h => h) (Or.inl ⟨by rfl, ?_⟩) ?_ ?_
               rotate_left; ·(intro w'; go_simp; with_reducible rfl)
               rotate_left; ·(simp only [Act.put, List.setIfInBounds_toArray, List.set_cons_zero, List.set_cons_succ, i64_w, i32_w]; rfl)
               refine done_ (done_of HT_.out (by kernel_rfl)) ?_
               have hcz64_0 : w63.cell? ⟨gb185, 0, none⟩ = some (.int .i64 ((rd_T100 x54_2 x56_2).f0)) := (blk_cell BK185.out 0).trans rfl
               have hcz64_1 : w63.cell? ⟨gb185, 1, none⟩ = some (.int .i64 ((rd_T100 x54_2 x56_2).f1)) := (blk_cell BK185.out 1).trans rfl
               have hfz64_0 := blk_frozen BK185.out 0
               have hfz64_1 := blk_frozen BK185.out 1
               have hcz65_0 : w63.cell? ⟨gb183, 0, none⟩ = some (.string a0) := (blk_cell BK183.out 0).trans rfl
               have hcz65_1 : w63.cell? ⟨gb183, 1, none⟩ = some (.slice (some ad192) x184001_2.length co27) := (blk_cell BK183.out 1).trans rfl
               have hfz65_0 := blk_frozen BK183.out 0
               have hfz65_1 := blk_frozen BK183.out 1
               have p52 : 0 ≤ ((wrap64 ((x184001_2.length : Int) - 1)) : Int) := of_decide_eq_true (by first | (with_reducible assumption) | assumption)
               have q52 : ((wrap64 ((x184001_2.length : Int) - 1)) : Int) < ((x184001_2.length : Int) : Int) := of_decide_eq_true (by first | (with_reducible assumption) | assumption)
               obtain ⟨go52, co52, eo52, gb52, gl52, cl52, HG52⟩ := Kd.R_form HO_184001.out (by omega)
               (first | cases eo52 | (injection eo52 with ea_ en_ ec_; (first | subst ea_ | (injection ea_ with ea_; subst ea_)); subst ec_; clear en_))
               have GB52 := Aside0.mk gb52
               have GG52 := Aside0.mk HG52
               clear gb52 gl52 HG52
               (first | simp only [add_plain] at hx192_0 | skip)
               (first | simp only [add_plain] at hx192_1 | skip)
               obtain ⟨ce52, hcl52, hM52, hcc52, hfr52⟩ := Kd.R_elem HO_184001.out z100 ((wrap64 ((x184001_2.length : Int) - 1)) : Int) p52 q52
               obtain rfl := k100_openM hM52
               have hx52_0 : w63.cell? ⟨go52, ((wrap64 ((x184001_2.length : Int) - 1)) : Int).toNat * 2, none⟩ = some (.int .i64 ((rd_T100 x184001_2 (wrap64 ((x184001_2.length : Int) - 1))).f0)) := hcc52 0 _ rfl
               have hx52_1 : w63.cell? ⟨go52, ((wrap64 ((x184001_2.length : Int) - 1)) : Int).toNat * 2 + 1, none⟩ = some (.int .i64 ((rd_T100 x184001_2 (wrap64 ((x184001_2.length : Int) - 1))).f1)) := hcc52 1 _ rfl
               have hf52_0 : w63.frozen? ⟨go52, ((wrap64 ((x184001_2.length : Int) - 1)) : Int).toNat * 2, none⟩ = false := hfr52 0
               have hf52_1 : w63.frozen? ⟨go52, ((wrap64 ((x184001_2.length : Int) - 1)) : Int).toNat * 2 + 1, none⟩ = false := hfr52 1
               clear hcl52 hcc52 hfr52 hM52
               replace p52 := eq_true p52
               replace q52 := eq_true q52
               have HX66 := Aside0.mk (show Kd.R k100 100 w63 w1_.heap.size (fun k_ => some k_ ≠ (.slice (some ad184) x54_2.length co16 : Value).ownBlock ∧ k_ ≠ gb185 ∧ k_ ≠ gb193) (.slice (some ⟨go52, 0, none⟩) x184001_2.length co27) x184001_2 from (by (with_reducible repeat (first | apply Kd.R_alloc | apply Kd.R_drewN | apply Kd.R_drew)); exact HO_184001.out))
               obtain ⟨ce66, hcl66, hM66, hcc66, hfr66⟩ := Kd.R_elem HX66.out z100 ((wrap64 ((x184001_2.length : Int) - 1)) : Int) (of_decide_eq_true (by first | (with_reducible assumption) | assumption)) (by have h_ : ((wrap64 ((x184001_2.length : Int) - 1)) : Int) < ((x184001_2.length : Int) : Int) := of_decide_eq_true (by first | (with_reducible assumption) | assumption); first | exact h_ | (have e_ := (Kd.R_reads' HO_184001.out).1; omega) | simpa using h_)
               obtain rfl := k100_openM hM66
               have HP66 := Kd.R_seg HX66.out ((wrap64 ((x184001_2.length : Int) - 1)) : Int) (of_decide_eq_true (by first | (with_reducible assumption) | assumption)) (by have h_ : ((wrap64 ((x184001_2.length : Int) - 1)) : Int) < ((x184001_2.length : Int) : Int) := of_decide_eq_true (by first | (with_reducible assumption) | assumption); first | exact h_ | (have e_ := (Kd.R_reads' HO_184001.out).1; omega) | simpa using h_) (seg := [.int .i64 t194, .int .i64 ji50]) (j := 0) hcl66 hcc66 (show 2 ≤ 2 from by decide) (x' := (⟨t194, ji50⟩ : S100)) (k100_mkM _ _ _ (⟨t194, ji50⟩ : S100) ) (fun _ hk => hk)
               have hx66_0 := hcc66 0 _ rfl
               (try simp only [show (k100).sz = 2 from rfl, Nat.mul_one, Nat.add_zero] at hx66_0)
               have hf66_0 := hfr66 0
               (try simp only [show (k100).sz = 2 from rfl, Nat.mul_one, Nat.add_zero] at hf66_0)
               have hx66_1 := hcc66 1 _ rfl
               (try simp only [show (k100).sz = 2 from rfl, Nat.mul_one, Nat.add_zero] at hx66_1)
               have hf66_1 := hfr66 1
               (try simp only [show (k100).sz = 2 from rfl, Nat.mul_one, Nat.add_zero] at hf66_1)
               clear hcl66 hcc66 hfr66 hM66
               try go_wp2_with (first | ((with_reducible refine gate_store (t := 100) (p := 120) rfl ?_); refine store_event (t := 100) (p := 120) (v := ?vo_w67) (w1 := ((w63.setCell ⟨go52, ((wrap64 ((x184001_2.length : Int) - 1)) : Int).toNat * 2, none⟩ (.int .i64 t194)).setCell ⟨go52, ((wrap64 ((x184001_2.length : Int) - 1)) : Int).toNat * 2 + 1, none⟩ (.int .i64 ji50))) ?hg ?ho ?hn ?hr ?_; (case ho => rfl); (case hg => rfl); (case hn => rfl); (case hr => first | (go_simp; done) | (go_simp; rfl)); intro w67 hw; have hg : w63.grownBy w67 (some go52) := (by rw [hw]; exact HP66.2); have hp_ : Kd.R k100 100 w67 w1_.heap.size (fun k_ => some k_ ≠ (.slice (some ad184) x54_2.length co16 : Value).ownBlock ∧ k_ ≠ gb185 ∧ k_ ≠ gb193) (.slice (some ⟨go52, 0, none⟩) x184001_2.length co27) y197 := (by rw [hw, Ny197.out]; exact HP66.1); clear HP66; have n0_ := Aside0.mk (Kd.R_after (v := (.slice (some ⟨go52, 0, none⟩) x184001_2.length co27)) (v1 := (.slice (some ⟨go52, 0, none⟩) x184001_2.length co27)) (ok := (fun k_ => k_ ≠ gb185 ∧ k_ ≠ gb193)) (by (with_reducible repeat (first | apply Kd.R_alloc | apply Kd.R_drewN | apply Kd.R_drew)); exact Kd.R_mono HO_54.out (fun _ hk => ⟨⟨hk.2.1, hk.2.2⟩, hk.1⟩)) hg (.inl rfl)); have n1_ := Aside0.mk (hp_); have n2_ := Aside0.mk (blk_grown (g := gb183) (o := .cells #[.string a0, .slice (some ⟨go52, 0, none⟩) x184001_2.length co27] 103 (0, 0)) (by (with_reducible repeat (first | refine blk_drewN ?_ _ | refine blk_drew ?_ | refine blk_alloc ?_ _)); exact BK183.out) hg (Kd.R_ne HO_184001.out BK183.out (by decide))); have n3_ := Aside0.mk (blk_grown (g := gb185) (o := .cells #[.int .i64 ((rd_T100 x54_2 x56_2).f0), .int .i64 ((rd_T100 x54_2 x56_2).f1)] 100 (0, 0)) (by (with_reducible repeat (first | refine blk_drewN ?_ _ | refine blk_drew ?_ | refine blk_alloc ?_ _)); exact BK185.out) hg (Kd.R_away HO_184001.out (fun _ hk => hk.2.1))); have n4_ := Aside0.mk (blk_grown (g := gb193) (o := .cells #[.int .i64 ((rd_T100 x184001_2 (wrap64 ((x184001_2.length : Int) - 1))).f0), .int .i64 ((rd_T100 x184001_2 (wrap64 ((x184001_2.length : Int) - 1))).f1)] 100 (0, 0)) (by (with_reducible repeat (first | refine blk_drewN ?_ _ | refine blk_drew ?_ | refine blk_alloc ?_ _)); exact BK193.out) hg (Kd.R_away HO_184001.out (fun _ hk => hk.2.2))); have n5_ := Aside0.mk ((by rw [hw]; exact below_set (below_set (HB.out) GB52.out) GB52.out : Below w1_.heap.size w1_ w67)); clear HO_54; clear HO_184001; clear BK183; clear BK185; clear BK193; clear HB; have HO_54 := n0_; have HO_184001 := n1_; have BK183 := n2_; have BK185 := n3_; have BK193 := n4_; have HB := n5_; clear n0_ n1_ n2_ n3_ n4_ n5_; clear hg hw hp_))
               (try simp only [← hl54_2])
               go_roundg kj21
               case measure => have := HK1.out; have := HK2.out; have := HJ21.out; omega
               case rel => exact ⟨(x54_2), (wrap64 (x56_2 + 1)), (y197), (.slice (some ⟨go52, 0, none⟩) x184001_2.length co27), (by first | rfl | (simp; done) | (simp [*]; done)), H', ⟨by have := HK1.out; have := HK2.out; have := HJ21.out; omega⟩, ⟨by (try simp only [hl54_2]); (with_reducible repeat (first | apply Kd.R_alloc | apply Kd.R_drewN | apply Kd.R_drew)); exact Kd.R_mono HO_54.out (fun _ hk => hk.2)⟩, ⟨by (try simp only [hl54_2]); (with_reducible repeat (first | apply Kd.R_alloc | apply Kd.R_drewN | apply Kd.R_drew)); exact Kd.R_mono HO_184001.out (fun _ hk => hk.1)⟩, ⟨by (try simp only [hl54_2]); (with_reducible repeat (first | refine blk_drewN ?_ _ | refine blk_drew ?_ | refine blk_alloc ?_ _)); exact BK183.out⟩, ⟨by repeat (first | (with_reducible first | exact HB.out | apply below_alloc | apply pw_below_drewN | apply below_drew1 | refine below_set ?_ GE183.out | refine below_set ?_ GE185.out | refine below_set ?_ GE193.out) | exact HB.out)⟩⟩
              ·rw [if_neg c51] at H
               have c51b0 : decide (((rd_T100 x54_2 x56_2).f0) ≤ ((rd_T100 x54_2 x56_2).f1)) = false := decide_eq_false c51
               clear c51
               obtain ⟨y198, hy198⟩ : ∃ y_ : List (S100), y_ = (x184001_2.set ((wrap64 ((x184001_2.length : Int) - 1)) : Int).toNat (⟨ji50, t194⟩ : S100)) := ⟨_, rfl⟩
               replace H : (carets_settled.l1 kj21 x54_2 (x6_1.length : Int) (wrap64 (x56_2 + 1)) a0 y198) = some (r1, r2) := by first | (rw [hy198]; with_reducible exact H) | (have H2_ := (Option.bind_some _ _).symm.trans H; rw [hy198]; with_reducible exact H2_) | (have H2_ := (Option.bind_some _ _).symm.trans H; with_reducible exact H2_) | with_reducible exact H | (rw [hy198]; exact H) | exact H
               have Ny198 := Aside0.mk hy198
               clear hy198
               have H' := Aside0.mk H
               clear H
               have hnb69 := NB183_185.out
               have hnc69 := NB185_183.out
               have hcz70_0 : wc.cell? ⟨gb183, 0, none⟩ = some (.string a0) := (blk_cell BK183.out 0).trans rfl
               have hcz70_1 : wc.cell? ⟨gb183, 1, none⟩ = some (.slice Ao27 x184001_2.length co27) := (blk_cell BK183.out 1).trans rfl
               have hfz70_0 := blk_frozen BK183.out 0
               have hfz70_1 := blk_frozen BK183.out 1
               have p192 : 0 ≤ ((wrap64 ((x184001_2.length : Int) - 1)) : Int) := of_decide_eq_true (by first | (with_reducible assumption) | assumption)
               have q192 : (wrap64 ((x184001_2.length : Int) - 1)) < (x184001_2.length : Int) := of_decide_eq_true (by first | (with_reducible assumption) | assumption)
               obtain ⟨ad192, e192, hx192_0, hx192_1⟩ := at_T100 (Kd.R_reads' HO_184001.out).2.2 (wrap64 ((x184001_2.length : Int) - 1)) p192 q192
               cases e192
               (try simp only [hl54_2] at p192)
               (try simp only [hl54_2] at q192)
               (try simp only [hl54_2] at hx192_0)
               (try simp only [hl54_2] at hx192_1)
               replace p192 := eq_true p192
               replace q192 := eq_true q192
               try go_wp2_with (first | ((with_reducible refine gate_dst (N := 17) rfl ?_); refine box_event ?hg (N := 17) ?hd (cs := #[.int .i64 0, .int .i64 0]) (t := 100) ?hr ?_; (case hd => rfl); (case hg => rfl); (case hr => first | (go_simp; done) | (go_simp; rfl)); intro gb193 hg w71 hbox hb; have n0_ := Aside0.mk (Kd.R_below (Kd.R_elderB (by (with_reducible repeat (first | apply Kd.R_alloc | apply Kd.R_drewN | apply Kd.R_drew)); exact HO_54.out) gb193 (Nat.le_of_eq hg.symm)) hb); have n1_ := Aside0.mk (Kd.R_below (Kd.R_elderB (by (with_reducible repeat (first | apply Kd.R_alloc | apply Kd.R_drewN | apply Kd.R_drew)); exact HO_184001.out) gb193 (Nat.le_of_eq hg.symm)) hb); have n2_ := Aside0.mk (blk_below (g := gb183) (o := .cells #[.string a0, .slice (some ad192) x184001_2.length co27] 103 (0, 0)) (by (with_reducible repeat (first | refine blk_drewN ?_ _ | refine blk_drew ?_ | refine blk_alloc ?_ _)); exact BK183.out) hb); have n3_ := Aside0.mk (blk_below (g := gb185) (o := .cells #[.int .i64 ((rd_T100 x54_2 x56_2).f0), .int .i64 ((rd_T100 x54_2 x56_2).f1)] 100 (0, 0)) (by (with_reducible repeat (first | refine blk_drewN ?_ _ | refine blk_drew ?_ | refine blk_alloc ?_ _)); exact BK185.out) hb); have n4_ := Aside0.mk (below_step HB.out hb); have n5_ := Aside0.mk (below_step (by repeat (first | (with_reducible first | exact HB.out | apply below_alloc | apply pw_below_drewN | apply below_drew1 | refine below_set ?_ GE183.out | refine below_set ?_ GE185.out) | exact HB.out)) hb); have n6_ := Aside0.mk (hbox); have n7_ := Aside0.mk ((by rw [hg]; exact (below_size (by repeat (first | (with_reducible first | exact HB.out | apply below_alloc | apply pw_below_drewN | apply below_drew1 | refine below_set ?_ GW183.out | refine below_set ?_ GW185.out) | exact HB.out))) : w1_.heap.size ≤ gb193)); have n8_ := Aside0.mk ((Nat.le_trans HW0.out (by rw [hg]; exact (below_size (by repeat (first | (with_reducible first | exact HB.out | apply below_alloc | apply pw_below_drewN | apply below_drew1 | refine below_set ?_ GW183.out | refine below_set ?_ GW185.out) | exact HB.out))) : w1_.heap.size ≤ gb193) : w1_.heap.size ≤ gb193)); have n9_ := Aside0.mk ((by rw [hg]; exact Nat.ne_of_lt (blk_lt (g := gb183) (o := .cells #[.string a0, .slice (some ad192) x184001_2.length co27] 103 (0, 0)) (by (with_reducible repeat (first | refine blk_drewN ?_ _ | refine blk_drew ?_ | refine blk_alloc ?_ _)); exact BK183.out)) : gb183 ≠ gb193)); have n10_ := Aside0.mk ((by rw [hg]; exact Nat.ne_of_gt (blk_lt (g := gb183) (o := .cells #[.string a0, .slice (some ad192) x184001_2.length co27] 103 (0, 0)) (by (with_reducible repeat (first | refine blk_drewN ?_ _ | refine blk_drew ?_ | refine blk_alloc ?_ _)); exact BK183.out)) : gb193 ≠ gb183)); have n11_ := Aside0.mk ((by rw [hg]; exact Nat.ne_of_lt (blk_lt (g := gb185) (o := .cells #[.int .i64 ((rd_T100 x54_2 x56_2).f0), .int .i64 ((rd_T100 x54_2 x56_2).f1)] 100 (0, 0)) (by (with_reducible repeat (first | refine blk_drewN ?_ _ | refine blk_drew ?_ | refine blk_alloc ?_ _)); exact BK185.out)) : gb185 ≠ gb193)); have n12_ := Aside0.mk ((by rw [hg]; exact Nat.ne_of_gt (blk_lt (g := gb185) (o := .cells #[.int .i64 ((rd_T100 x54_2 x56_2).f0), .int .i64 ((rd_T100 x54_2 x56_2).f1)] 100 (0, 0)) (by (with_reducible repeat (first | refine blk_drewN ?_ _ | refine blk_drew ?_ | refine blk_alloc ?_ _)); exact BK185.out)) : gb193 ≠ gb185)); clear HO_54; clear HO_184001; clear BK183; clear BK185; clear HBW; clear HB; have HO_54 := n0_; have HO_184001 := n1_; have BK183 := n2_; have BK185 := n3_; have HBW := n4_; have HB := n5_; have BK193 := n6_; have GW193 := n7_; have GE193 := n8_; have NB183_193 := n9_; have NB193_183 := n10_; have NB185_193 := n11_; have NB193_185 := n12_; clear n0_ n1_ n2_ n3_ n4_ n5_ n6_ n7_ n8_ n9_ n10_ n11_ n12_; clear hb hbox hg; have hnb72 := NB193_183.out; have hnc72 := NB183_193.out; have hnb73 := NB193_185.out; have hnc73 := NB185_193.out; have hcz74_0 : w71.cell? ⟨gb193, 0, none⟩ = some (.int .i64 0) := (blk_cell BK193.out 0).trans rfl; have hcz74_1 : w71.cell? ⟨gb193, 1, none⟩ = some (.int .i64 0) := (blk_cell BK193.out 1).trans rfl; have hfz74_0 := blk_frozen BK193.out 0; have hfz74_1 := blk_frozen BK193.out 1))
               have n0_ : Aside0 (Kd.R k100 100 ((w71.setCell ⟨gb193, 0, none⟩ (.int .i64 ((rd_T100 x184001_2 (wrap64 ((x184001_2.length : Int) - 1))).f0))).setCell ⟨gb193, 1, none⟩ (.int .i64 ((rd_T100 x184001_2 (wrap64 ((x184001_2.length : Int) - 1))).f1))) w1_.heap.size (fun k_ => some k_ ≠ (.slice (some ad192) x184001_2.length co27 : Value).ownBlock ∧ k_ ≠ gb185 ∧ k_ ≠ gb193) (.slice (some ad184) x54_2.length co16) x54_2) := ⟨by (with_reducible repeat (first | apply Kd.R_alloc | apply Kd.R_drewN | apply Kd.R_drew)); exact Kd.R_mono (Kd.R_far (p := ⟨gb193, 1, none⟩) (Kd.R_far (p := ⟨gb193, 0, none⟩) (Kd.R_mono HO_54.out (fun k_ hk => (⟨hk, hk.2⟩ : _ ∧ k_ ≠ gb193))) (fun _ hk => hk.2) (.int .i64 ((rd_T100 x184001_2 (wrap64 ((x184001_2.length : Int) - 1))).f0))) (fun _ hk => hk.2) (.int .i64 ((rd_T100 x184001_2 (wrap64 ((x184001_2.length : Int) - 1))).f1))) (fun _ hk => ⟨hk.1.1.1, ⟨hk.1.1.2, hk.1.2⟩⟩)⟩
               have n1_ : Aside0 (Kd.R k100 100 ((w71.setCell ⟨gb193, 0, none⟩ (.int .i64 ((rd_T100 x184001_2 (wrap64 ((x184001_2.length : Int) - 1))).f0))).setCell ⟨gb193, 1, none⟩ (.int .i64 ((rd_T100 x184001_2 (wrap64 ((x184001_2.length : Int) - 1))).f1))) w1_.heap.size (fun k_ => some k_ ≠ (.slice (some ad184) x54_2.length co16 : Value).ownBlock ∧ k_ ≠ gb185 ∧ k_ ≠ gb193) (.slice (some ad192) x184001_2.length co27) x184001_2) := ⟨by (with_reducible repeat (first | apply Kd.R_alloc | apply Kd.R_drewN | apply Kd.R_drew)); exact Kd.R_mono (Kd.R_far (p := ⟨gb193, 1, none⟩) (Kd.R_far (p := ⟨gb193, 0, none⟩) (Kd.R_mono HO_184001.out (fun k_ hk => (⟨hk, hk.2⟩ : _ ∧ k_ ≠ gb193))) (fun _ hk => hk.2) (.int .i64 ((rd_T100 x184001_2 (wrap64 ((x184001_2.length : Int) - 1))).f0))) (fun _ hk => hk.2) (.int .i64 ((rd_T100 x184001_2 (wrap64 ((x184001_2.length : Int) - 1))).f1))) (fun _ hk => ⟨hk.1.1.1, ⟨hk.1.1.2, hk.1.2⟩⟩)⟩
               have n2_ : Aside0 (((w71.setCell ⟨gb193, 0, none⟩ (.int .i64 ((rd_T100 x184001_2 (wrap64 ((x184001_2.length : Int) - 1))).f0))).setCell ⟨gb193, 1, none⟩ (.int .i64 ((rd_T100 x184001_2 (wrap64 ((x184001_2.length : Int) - 1))).f1))).heap[gb183]? = some (.cells #[.string a0, .slice (some ad192) x184001_2.length co27] 103 (0, 0))) := ⟨by (with_reducible repeat (first | refine blk_drewN ?_ _ | refine blk_drew ?_ | refine blk_alloc ?_ _)); refine blk_far ?_ NB183_193.out _; (with_reducible repeat (first | refine blk_drewN ?_ _ | refine blk_drew ?_ | refine blk_alloc ?_ _)); refine blk_far ?_ NB183_193.out _; (with_reducible repeat (first | refine blk_drewN ?_ _ | refine blk_drew ?_ | refine blk_alloc ?_ _)); exact BK183.out⟩
               have n3_ : Aside0 (((w71.setCell ⟨gb193, 0, none⟩ (.int .i64 ((rd_T100 x184001_2 (wrap64 ((x184001_2.length : Int) - 1))).f0))).setCell ⟨gb193, 1, none⟩ (.int .i64 ((rd_T100 x184001_2 (wrap64 ((x184001_2.length : Int) - 1))).f1))).heap[gb185]? = some (.cells #[.int .i64 ((rd_T100 x54_2 x56_2).f0), .int .i64 ((rd_T100 x54_2 x56_2).f1)] 100 (0, 0))) := ⟨by (with_reducible repeat (first | refine blk_drewN ?_ _ | refine blk_drew ?_ | refine blk_alloc ?_ _)); refine blk_far ?_ NB185_193.out _; (with_reducible repeat (first | refine blk_drewN ?_ _ | refine blk_drew ?_ | refine blk_alloc ?_ _)); refine blk_far ?_ NB185_193.out _; (with_reducible repeat (first | refine blk_drewN ?_ _ | refine blk_drew ?_ | refine blk_alloc ?_ _)); exact BK185.out⟩
               have n4_ : Aside0 (((w71.setCell ⟨gb193, 0, none⟩ (.int .i64 ((rd_T100 x184001_2 (wrap64 ((x184001_2.length : Int) - 1))).f0))).setCell ⟨gb193, 1, none⟩ (.int .i64 ((rd_T100 x184001_2 (wrap64 ((x184001_2.length : Int) - 1))).f1))).heap[gb193]? = some (.cells #[.int .i64 ((rd_T100 x184001_2 (wrap64 ((x184001_2.length : Int) - 1))).f0), .int .i64 ((rd_T100 x184001_2 (wrap64 ((x184001_2.length : Int) - 1))).f1)] 100 (0, 0))) := ⟨by (with_reducible repeat (first | refine blk_drewN ?_ _ | refine blk_drew ?_ | refine blk_alloc ?_ _)); refine blk_put (cs := #[.int .i64 ((rd_T100 x184001_2 (wrap64 ((x184001_2.length : Int) - 1))).f0), .int .i64 0]) ?_ 1 _ rfl; (with_reducible repeat (first | refine blk_drewN ?_ _ | refine blk_drew ?_ | refine blk_alloc ?_ _)); refine blk_put (cs := #[.int .i64 0, .int .i64 0]) ?_ 0 _ rfl; (with_reducible repeat (first | refine blk_drewN ?_ _ | refine blk_drew ?_ | refine blk_alloc ?_ _)); exact BK193.out⟩
               have n5_ : Aside0 (Below w1_.heap.size w1_ ((w71.setCell ⟨gb193, 0, none⟩ (.int .i64 ((rd_T100 x184001_2 (wrap64 ((x184001_2.length : Int) - 1))).f0))).setCell ⟨gb193, 1, none⟩ (.int .i64 ((rd_T100 x184001_2 (wrap64 ((x184001_2.length : Int) - 1))).f1)))) := ⟨by repeat (first | (with_reducible first | exact HB.out | apply below_alloc | apply pw_below_drewN | apply below_drew1 | refine below_set ?_ GE183.out | refine below_set ?_ GE185.out | refine below_set ?_ GE193.out) | exact HB.out)⟩
               (try clear HO_54)
               (try clear HO_184001)
               (try clear BK183)
               (try clear BK185)
               (try clear BK193)
               (try clear HB)
               generalize ((w71.setCell ⟨gb193, 0, none⟩ (.int .i64 ((rd_T100 x184001_2 (wrap64 ((x184001_2.length : Int) - 1))).f0))).setCell ⟨gb193, 1, none⟩ (.int .i64 ((rd_T100 x184001_2 (wrap64 ((x184001_2.length : Int) - 1))).f1))) = w75 at n0_ n1_ n2_ n3_ n4_ n5_ ⊢
               have HO_54 := n0_
               have HO_184001 := n1_
               have BK183 := n2_
               have BK185 := n3_
               have BK193 := n4_
               have HB := n5_
               clear n0_ n1_ n2_ n3_ n4_ n5_
               have n0_ := Aside0.mk (Kd.R_drew HO_54.out)
               have n1_ := Aside0.mk (Kd.R_drew HO_184001.out)
               have n2_ := Aside0.mk (blk_drew BK183.out)
               have n3_ := Aside0.mk (blk_drew BK185.out)
               have n4_ := Aside0.mk (blk_drew BK193.out)
               have n5_ := Aside0.mk (below_drew1 HB.out)
               clear HO_54 HO_184001 BK183 BK185 BK193 HB
               have HO_54 := n0_
               have HO_184001 := n1_
               have BK183 := n2_
               have BK185 := n3_
               have BK193 := n4_
               have HB := n5_
               clear n0_ n1_ n2_ n3_ n4_ n5_
               refine start_ (n := 9) (S := fun w' => w'.cell? ⟨gb193, 0, none⟩ = some (.int .i64 ((rd_T100 x184001_2 (wrap64 ((x184001_2.length : Int) - 1))).f0)) ∧ w'.cell? ⟨gb193, 1, none⟩ = some (.int .i64 ((rd_T100 x184001_2 (wrap64 ((x184001_2.length : Int) - 1))).f1)) ∧ w'.cell? ⟨gb185, 0, none⟩ = some (.int .i64 ((rd_T100 x54_2 x56_2).f0)) ∧ w'.cell? ⟨gb185, 1, none⟩ = some (.int .i64 ((rd_T100 x54_2 x56_2).f1))) (ds := []) #[false, false, false, false, false, false, false, false, false] (by kernel_rfl) rfl rfl ⟨(blk_cell BK193.out 0).trans rfl, (blk_cell BK193.out 1).trans rfl, (blk_cell BK185.out 0).trans rfl, (blk_cell BK185.out 1).trans rfl⟩ (fun hHeld => ?_); refine with_tabW carets_settled.tab19 carets_settled.bits19 (fun HT_ HW_ => ?_)
               generalize w75.drew = w76 at HO_54 HO_184001 BK183 BK185 BK193 HB hHeld ⊢
               refine take_ (i := 0) (N := some 99) (v := ?_) (a' := ?_) #[true, false, false, false, false, false, false, false, false] rfl rfl (take_ofW HT_.out HW_.out (by kernel_rfl)) (fun _ _ _ h => h) (Or.inl ⟨by rfl, ?_⟩) hHeld ?_ ?_
               rotate_left
               ·rintro w' ⟨s0, s1, s2, s3⟩
                go_simp
                with_reducible rfl
               rotate_left; ·(simp only [Act.put, List.setIfInBounds_toArray, List.set_cons_zero, List.set_cons_succ, i64_w, i32_w]; rfl)
               refine take_ (i := 2) (N := some 101) (v := ?_) (a' := ?_) #[true, false, true, false, false, false, false, false, false] rfl rfl (take_ofW HT_.out HW_.out (by kernel_rfl)) (fun _ _ _ h => h) (Or.inl ⟨by rfl, ?_⟩) hHeld ?_ ?_
               rotate_left
               ·rintro w' ⟨s0, s1, s2, s3⟩
                go_simp
                with_reducible rfl
               rotate_left; ·(simp only [Act.put, List.setIfInBounds_toArray, List.set_cons_zero, List.set_cons_succ, i64_w, i32_w]; rfl)
               refine take_ (i := 4) (N := some 103) (v := ?_) (a' := ?_) #[true, false, true, false, true, false, false, false, false] rfl rfl (take_ofW HT_.out HW_.out (by kernel_rfl)) (fun _ _ _ h => h) (Or.inl ⟨by rfl, ?_⟩) hHeld ?_ ?_
               rotate_left
               ·rintro w' ⟨s0, s1, s2, s3⟩
                go_simp
                with_reducible rfl
               rotate_left; ·(simp only [Act.put, List.setIfInBounds_toArray, List.set_cons_zero, List.set_cons_succ, i64_w, i32_w]; rfl)
               refine one_ (i := 1) (N := some 100) #[true, true, true, false, true, false, false, false, false] rfl rfl (one_of HT_.out (by kernel_rfl)) (by decide) (fun K hK => ?_)
               refine goes_ Tryd.func75 (by kernel_rfl) rfl #[.agg #[.int .i64 ((rd_T100 x184001_2 (wrap64 ((x184001_2.length : Int) - 1))).f0), .int .i64 ((rd_T100 x184001_2 (wrap64 ((x184001_2.length : Int) - 1))).f1)]] (by rfl) rfl rfl (by (try simp only [List.map_toArray, List.map_cons, List.map_nil]); first | done | rfl | (simp only [List.length_drop, List.length_take]; rfl)) ?_
               with_reducible refine (carets_low.calls ((rd_T100 x184001_2 (wrap64 ((x184001_2.length : Int) - 1))).f0) ((rd_T100 x184001_2 (wrap64 ((x184001_2.length : Int) - 1))).f1) t194 _ A47.out).mono ?_
               rintro e w77 ⟨rfl, hb⟩
               refine ⟨_, rfl, ?_⟩
               have n0_ := Aside0.mk (Kd.R_below (by (with_reducible repeat (first | apply Kd.R_alloc | apply Kd.R_drewN | apply Kd.R_drew)); exact HO_54.out) hb)
               have n1_ := Aside0.mk (Kd.R_below (by (with_reducible repeat (first | apply Kd.R_alloc | apply Kd.R_drewN | apply Kd.R_drew)); exact HO_184001.out) hb)
               have n2_ := Aside0.mk (blk_below (g := gb183) (o := .cells #[.string a0, .slice (some ad192) x184001_2.length co27] 103 (0, 0)) (by (with_reducible repeat (first | refine blk_drewN ?_ _ | refine blk_drew ?_ | refine blk_alloc ?_ _)); exact BK183.out) hb)
               have n3_ := Aside0.mk (blk_below (g := gb185) (o := .cells #[.int .i64 ((rd_T100 x54_2 x56_2).f0), .int .i64 ((rd_T100 x54_2 x56_2).f1)] 100 (0, 0)) (by (with_reducible repeat (first | refine blk_drewN ?_ _ | refine blk_drew ?_ | refine blk_alloc ?_ _)); exact BK185.out) hb)
               have n4_ := Aside0.mk (blk_below (g := gb193) (o := .cells #[.int .i64 ((rd_T100 x184001_2 (wrap64 ((x184001_2.length : Int) - 1))).f0), .int .i64 ((rd_T100 x184001_2 (wrap64 ((x184001_2.length : Int) - 1))).f1)] 100 (0, 0)) (by (with_reducible repeat (first | refine blk_drewN ?_ _ | refine blk_drew ?_ | refine blk_alloc ?_ _)); exact BK193.out) hb)
               have n5_ := Aside0.mk (below_step (by repeat (first | (with_reducible first | exact HB.out | apply below_alloc | apply pw_below_drewN | apply below_drew1 | refine below_set ?_ GE183.out | refine below_set ?_ GE185.out | refine below_set ?_ GE193.out) | exact HB.out)) hb)
               clear HO_54 HO_184001 BK183 BK185 BK193 HB
               have HO_54 := n0_
               have HO_184001 := n1_
               have BK183 := n2_
               have BK185 := n3_
               have BK193 := n4_
               have HB := n5_
               clear n0_ n1_ n2_ n3_ n4_ n5_
               (try clear hb)
               (try clear hb2)
               (try clear hk)
               (try clear hi)
               refine hK.out _ _ ⟨(blk_cell BK193.out 0).trans rfl, (blk_cell BK193.out 1).trans rfl, (blk_cell BK185.out 0).trans rfl, (blk_cell BK185.out 1).trans rfl⟩ (fun hHeld => ?_)
               clear hK K
               refine norm_ (a' := ?_) ?_ ?_
               rotate_left
               ·show Act.put _ (some 100) _ = _
                simp only [Act.put, List.setIfInBounds_toArray, List.set_cons_zero, List.set_cons_succ, i64_w, i32_w]
                rfl
               refine one_ (i := 3) (N := some 102) #[true, true, true, true, true, false, false, false, false] rfl rfl (one_of HT_.out (by kernel_rfl)) (by decide) (fun K hK => ?_)
               refine goes_ Tryd.func76 (by kernel_rfl) rfl #[.agg #[.int .i64 ((rd_T100 x184001_2 (wrap64 ((x184001_2.length : Int) - 1))).f0), .int .i64 ((rd_T100 x184001_2 (wrap64 ((x184001_2.length : Int) - 1))).f1)]] (by rfl) rfl rfl (by (try simp only [List.map_toArray, List.map_cons, List.map_nil]); first | done | rfl | (simp only [List.length_drop, List.length_take]; rfl)) ?_
               with_reducible refine (carets_high.calls ((rd_T100 x184001_2 (wrap64 ((x184001_2.length : Int) - 1))).f0) ((rd_T100 x184001_2 (wrap64 ((x184001_2.length : Int) - 1))).f1) t195 _ A48.out).mono ?_
               rintro e w78 ⟨rfl, hb⟩
               refine ⟨_, rfl, ?_⟩
               have n0_ := Aside0.mk (Kd.R_below (by (with_reducible repeat (first | apply Kd.R_alloc | apply Kd.R_drewN | apply Kd.R_drew)); exact HO_54.out) hb)
               have n1_ := Aside0.mk (Kd.R_below (by (with_reducible repeat (first | apply Kd.R_alloc | apply Kd.R_drewN | apply Kd.R_drew)); exact HO_184001.out) hb)
               have n2_ := Aside0.mk (blk_below (g := gb183) (o := .cells #[.string a0, .slice (some ad192) x184001_2.length co27] 103 (0, 0)) (by (with_reducible repeat (first | refine blk_drewN ?_ _ | refine blk_drew ?_ | refine blk_alloc ?_ _)); exact BK183.out) hb)
               have n3_ := Aside0.mk (blk_below (g := gb185) (o := .cells #[.int .i64 ((rd_T100 x54_2 x56_2).f0), .int .i64 ((rd_T100 x54_2 x56_2).f1)] 100 (0, 0)) (by (with_reducible repeat (first | refine blk_drewN ?_ _ | refine blk_drew ?_ | refine blk_alloc ?_ _)); exact BK185.out) hb)
               have n4_ := Aside0.mk (blk_below (g := gb193) (o := .cells #[.int .i64 ((rd_T100 x184001_2 (wrap64 ((x184001_2.length : Int) - 1))).f0), .int .i64 ((rd_T100 x184001_2 (wrap64 ((x184001_2.length : Int) - 1))).f1)] 100 (0, 0)) (by (with_reducible repeat (first | refine blk_drewN ?_ _ | refine blk_drew ?_ | refine blk_alloc ?_ _)); exact BK193.out) hb)
               have n5_ := Aside0.mk (below_step (by repeat (first | (with_reducible first | exact HB.out | apply below_alloc | apply pw_below_drewN | apply below_drew1 | refine below_set ?_ GE183.out | refine below_set ?_ GE185.out | refine below_set ?_ GE193.out) | exact HB.out)) hb)
               clear HO_54 HO_184001 BK183 BK185 BK193 HB
               have HO_54 := n0_
               have HO_184001 := n1_
               have BK183 := n2_
               have BK185 := n3_
               have BK193 := n4_
               have HB := n5_
               clear n0_ n1_ n2_ n3_ n4_ n5_
               (try clear hb)
               (try clear hb2)
               (try clear hk)
               (try clear hi)
               refine hK.out _ _ ⟨(blk_cell BK193.out 0).trans rfl, (blk_cell BK193.out 1).trans rfl, (blk_cell BK185.out 0).trans rfl, (blk_cell BK185.out 1).trans rfl⟩ (fun hHeld => ?_)
               clear hK K
               refine norm_ (a' := ?_) ?_ ?_
               rotate_left
               ·show Act.put _ (some 102) _ = _
                simp only [Act.put, List.setIfInBounds_toArray, List.set_cons_zero, List.set_cons_succ, i64_w, i32_w]
                rfl
               refine one_ (i := 5) (N := some 104) #[true, true, true, true, true, true, false, false, false] rfl rfl (one_of HT_.out (by kernel_rfl)) (by decide) (fun K hK => ?_)
               refine goes_ Tryd.func76 (by kernel_rfl) rfl #[.agg #[.int .i64 ((rd_T100 x54_2 x56_2).f0), .int .i64 ((rd_T100 x54_2 x56_2).f1)]] (by rfl) rfl rfl (by (try simp only [List.map_toArray, List.map_cons, List.map_nil]); first | done | rfl | (simp only [List.length_drop, List.length_take]; rfl)) ?_
               with_reducible refine (carets_high.calls ((rd_T100 x54_2 x56_2).f0) ((rd_T100 x54_2 x56_2).f1) t196 _ A49.out).mono ?_
               rintro e w79 ⟨rfl, hb⟩
               refine ⟨_, rfl, ?_⟩
               have n0_ := Aside0.mk (Kd.R_below (by (with_reducible repeat (first | apply Kd.R_alloc | apply Kd.R_drewN | apply Kd.R_drew)); exact HO_54.out) hb)
               have n1_ := Aside0.mk (Kd.R_below (by (with_reducible repeat (first | apply Kd.R_alloc | apply Kd.R_drewN | apply Kd.R_drew)); exact HO_184001.out) hb)
               have n2_ := Aside0.mk (blk_below (g := gb183) (o := .cells #[.string a0, .slice (some ad192) x184001_2.length co27] 103 (0, 0)) (by (with_reducible repeat (first | refine blk_drewN ?_ _ | refine blk_drew ?_ | refine blk_alloc ?_ _)); exact BK183.out) hb)
               have n3_ := Aside0.mk (blk_below (g := gb185) (o := .cells #[.int .i64 ((rd_T100 x54_2 x56_2).f0), .int .i64 ((rd_T100 x54_2 x56_2).f1)] 100 (0, 0)) (by (with_reducible repeat (first | refine blk_drewN ?_ _ | refine blk_drew ?_ | refine blk_alloc ?_ _)); exact BK185.out) hb)
               have n4_ := Aside0.mk (blk_below (g := gb193) (o := .cells #[.int .i64 ((rd_T100 x184001_2 (wrap64 ((x184001_2.length : Int) - 1))).f0), .int .i64 ((rd_T100 x184001_2 (wrap64 ((x184001_2.length : Int) - 1))).f1)] 100 (0, 0)) (by (with_reducible repeat (first | refine blk_drewN ?_ _ | refine blk_drew ?_ | refine blk_alloc ?_ _)); exact BK193.out) hb)
               have n5_ := Aside0.mk (below_step (by repeat (first | (with_reducible first | exact HB.out | apply below_alloc | apply pw_below_drewN | apply below_drew1 | refine below_set ?_ GE183.out | refine below_set ?_ GE185.out | refine below_set ?_ GE193.out) | exact HB.out)) hb)
               clear HO_54 HO_184001 BK183 BK185 BK193 HB
               have HO_54 := n0_
               have HO_184001 := n1_
               have BK183 := n2_
               have BK185 := n3_
               have BK193 := n4_
               have HB := n5_
               clear n0_ n1_ n2_ n3_ n4_ n5_
               (try clear hb)
               (try clear hb2)
               (try clear hk)
               (try clear hi)
               refine hK.out _ _ ⟨(blk_cell BK193.out 0).trans rfl, (blk_cell BK193.out 1).trans rfl, (blk_cell BK185.out 0).trans rfl, (blk_cell BK185.out 1).trans rfl⟩ (fun hHeld => ?_)
               clear hK K
               refine norm_ (a' := ?_) ?_ ?_
               rotate_left
               ·show Act.put _ (some 104) _ = _
                simp only [Act.put, List.setIfInBounds_toArray, List.set_cons_zero, List.set_cons_succ, i64_w, i32_w]
                rfl
               refine pure_ (i := 6) (N := some 105) (v := ?_) (a' := ?_) #[true, true, true, true, true, true, true, false, false] rfl rfl (any_of HT_.out (by kernel_rfl)) (fun _ _ _ h => h) (Or.inl ⟨by rfl, ?_⟩) ?_ ?_
               rotate_left; ·(intro w'; go_simp; with_reducible rfl)
               rotate_left; ·(simp only [Act.put, List.setIfInBounds_toArray, List.set_cons_zero, List.set_cons_succ, i64_w, i32_w]; rfl)
               refine pure_ (i := 7) (N := some 18) (v := ?_) (a' := ?_) #[true, true, true, true, true, true, true, true, false] rfl rfl (any_of HT_.out (by kernel_rfl)) (fun _ _ _ h => h) (Or.inl ⟨by rfl, ?_⟩) ?_ ?_
               rotate_left; ·(intro w'; go_simp; with_reducible rfl)
               rotate_left; ·(simp only [Act.put, List.setIfInBounds_toArray, List.set_cons_zero, List.set_cons_succ, i64_w, i32_w]; rfl)
               refine pure_ (i := 8) (N := some 19) (v := ?_) (a' := ?_) #[true, true, true, true, true, true, true, true, true] rfl rfl (any_of HT_.out (by kernel_rfl)) (fun _ _ _ h => h) (Or.inl ⟨by rfl, ?_⟩) ?_ ?_
               rotate_left; ·(intro w'; go_simp; with_reducible rfl)
               rotate_left; ·(simp only [Act.put, List.setIfInBounds_toArray, List.set_cons_zero, List.set_cons_succ, i64_w, i32_w]; rfl)
               refine done_ (done_of HT_.out (by kernel_rfl)) ?_
               have hcz80_0 : w79.cell? ⟨gb185, 0, none⟩ = some (.int .i64 ((rd_T100 x54_2 x56_2).f0)) := (blk_cell BK185.out 0).trans rfl
               have hcz80_1 : w79.cell? ⟨gb185, 1, none⟩ = some (.int .i64 ((rd_T100 x54_2 x56_2).f1)) := (blk_cell BK185.out 1).trans rfl
               have hfz80_0 := blk_frozen BK185.out 0
               have hfz80_1 := blk_frozen BK185.out 1
               have hcz81_0 : w79.cell? ⟨gb183, 0, none⟩ = some (.string a0) := (blk_cell BK183.out 0).trans rfl
               have hcz81_1 : w79.cell? ⟨gb183, 1, none⟩ = some (.slice (some ad192) x184001_2.length co27) := (blk_cell BK183.out 1).trans rfl
               have hfz81_0 := blk_frozen BK183.out 0
               have hfz81_1 := blk_frozen BK183.out 1
               have p68 : 0 ≤ ((wrap64 ((x184001_2.length : Int) - 1)) : Int) := of_decide_eq_true (by first | (with_reducible assumption) | assumption)
               have q68 : ((wrap64 ((x184001_2.length : Int) - 1)) : Int) < ((x184001_2.length : Int) : Int) := of_decide_eq_true (by first | (with_reducible assumption) | assumption)
               obtain ⟨go68, co68, eo68, gb68, gl68, cl68, HG68⟩ := Kd.R_form HO_184001.out (by omega)
               (first | cases eo68 | (injection eo68 with ea_ en_ ec_; (first | subst ea_ | (injection ea_ with ea_; subst ea_)); subst ec_; clear en_))
               have GB68 := Aside0.mk gb68
               have GG68 := Aside0.mk HG68
               clear gb68 gl68 HG68
               (first | simp only [add_plain] at hx192_0 | skip)
               (first | simp only [add_plain] at hx192_1 | skip)
               obtain ⟨ce68, hcl68, hM68, hcc68, hfr68⟩ := Kd.R_elem HO_184001.out z100 ((wrap64 ((x184001_2.length : Int) - 1)) : Int) p68 q68
               obtain rfl := k100_openM hM68
               have hx68_0 : w79.cell? ⟨go68, ((wrap64 ((x184001_2.length : Int) - 1)) : Int).toNat * 2, none⟩ = some (.int .i64 ((rd_T100 x184001_2 (wrap64 ((x184001_2.length : Int) - 1))).f0)) := hcc68 0 _ rfl
               have hx68_1 : w79.cell? ⟨go68, ((wrap64 ((x184001_2.length : Int) - 1)) : Int).toNat * 2 + 1, none⟩ = some (.int .i64 ((rd_T100 x184001_2 (wrap64 ((x184001_2.length : Int) - 1))).f1)) := hcc68 1 _ rfl
               have hf68_0 : w79.frozen? ⟨go68, ((wrap64 ((x184001_2.length : Int) - 1)) : Int).toNat * 2, none⟩ = false := hfr68 0
               have hf68_1 : w79.frozen? ⟨go68, ((wrap64 ((x184001_2.length : Int) - 1)) : Int).toNat * 2 + 1, none⟩ = false := hfr68 1
               clear hcl68 hcc68 hfr68 hM68
               replace p68 := eq_true p68
               replace q68 := eq_true q68
               have HX82 := Aside0.mk (show Kd.R k100 100 w79 w1_.heap.size (fun k_ => some k_ ≠ (.slice (some ad184) x54_2.length co16 : Value).ownBlock ∧ k_ ≠ gb185 ∧ k_ ≠ gb193) (.slice (some ⟨go68, 0, none⟩) x184001_2.length co27) x184001_2 from (by (with_reducible repeat (first | apply Kd.R_alloc | apply Kd.R_drewN | apply Kd.R_drew)); exact HO_184001.out))
               obtain ⟨ce82, hcl82, hM82, hcc82, hfr82⟩ := Kd.R_elem HX82.out z100 ((wrap64 ((x184001_2.length : Int) - 1)) : Int) (of_decide_eq_true (by first | (with_reducible assumption) | assumption)) (by have h_ : ((wrap64 ((x184001_2.length : Int) - 1)) : Int) < ((x184001_2.length : Int) : Int) := of_decide_eq_true (by first | (with_reducible assumption) | assumption); first | exact h_ | (have e_ := (Kd.R_reads' HO_184001.out).1; omega) | simpa using h_)
               obtain rfl := k100_openM hM82
               have HP82 := Kd.R_seg HX82.out ((wrap64 ((x184001_2.length : Int) - 1)) : Int) (of_decide_eq_true (by first | (with_reducible assumption) | assumption)) (by have h_ : ((wrap64 ((x184001_2.length : Int) - 1)) : Int) < ((x184001_2.length : Int) : Int) := of_decide_eq_true (by first | (with_reducible assumption) | assumption); first | exact h_ | (have e_ := (Kd.R_reads' HO_184001.out).1; omega) | simpa using h_) (seg := [.int .i64 ji50, .int .i64 t194]) (j := 0) hcl82 hcc82 (show 2 ≤ 2 from by decide) (x' := (⟨ji50, t194⟩ : S100)) (k100_mkM _ _ _ (⟨ji50, t194⟩ : S100) ) (fun _ hk => hk)
               have hx82_0 := hcc82 0 _ rfl
               (try simp only [show (k100).sz = 2 from rfl, Nat.mul_one, Nat.add_zero] at hx82_0)
               have hf82_0 := hfr82 0
               (try simp only [show (k100).sz = 2 from rfl, Nat.mul_one, Nat.add_zero] at hf82_0)
               have hx82_1 := hcc82 1 _ rfl
               (try simp only [show (k100).sz = 2 from rfl, Nat.mul_one, Nat.add_zero] at hx82_1)
               have hf82_1 := hfr82 1
               (try simp only [show (k100).sz = 2 from rfl, Nat.mul_one, Nat.add_zero] at hf82_1)
               clear hcl82 hcc82 hfr82 hM82
               try go_wp2_with (first | ((with_reducible refine gate_store (t := 100) (p := 130) rfl ?_); refine store_event (t := 100) (p := 130) (v := ?vo_w83) (w1 := ((w79.setCell ⟨go68, ((wrap64 ((x184001_2.length : Int) - 1)) : Int).toNat * 2, none⟩ (.int .i64 ji50)).setCell ⟨go68, ((wrap64 ((x184001_2.length : Int) - 1)) : Int).toNat * 2 + 1, none⟩ (.int .i64 t194))) ?hg ?ho ?hn ?hr ?_; (case ho => rfl); (case hg => rfl); (case hn => rfl); (case hr => first | (go_simp; done) | (go_simp; rfl)); intro w83 hw; have hg : w79.grownBy w83 (some go68) := (by rw [hw]; exact HP82.2); have hp_ : Kd.R k100 100 w83 w1_.heap.size (fun k_ => some k_ ≠ (.slice (some ad184) x54_2.length co16 : Value).ownBlock ∧ k_ ≠ gb185 ∧ k_ ≠ gb193) (.slice (some ⟨go68, 0, none⟩) x184001_2.length co27) y198 := (by rw [hw, Ny198.out]; exact HP82.1); clear HP82; have n0_ := Aside0.mk (Kd.R_after (v := (.slice (some ⟨go68, 0, none⟩) x184001_2.length co27)) (v1 := (.slice (some ⟨go68, 0, none⟩) x184001_2.length co27)) (ok := (fun k_ => k_ ≠ gb185 ∧ k_ ≠ gb193)) (by (with_reducible repeat (first | apply Kd.R_alloc | apply Kd.R_drewN | apply Kd.R_drew)); exact Kd.R_mono HO_54.out (fun _ hk => ⟨⟨hk.2.1, hk.2.2⟩, hk.1⟩)) hg (.inl rfl)); have n1_ := Aside0.mk (hp_); have n2_ := Aside0.mk (blk_grown (g := gb183) (o := .cells #[.string a0, .slice (some ⟨go68, 0, none⟩) x184001_2.length co27] 103 (0, 0)) (by (with_reducible repeat (first | refine blk_drewN ?_ _ | refine blk_drew ?_ | refine blk_alloc ?_ _)); exact BK183.out) hg (Kd.R_ne HO_184001.out BK183.out (by decide))); have n3_ := Aside0.mk (blk_grown (g := gb185) (o := .cells #[.int .i64 ((rd_T100 x54_2 x56_2).f0), .int .i64 ((rd_T100 x54_2 x56_2).f1)] 100 (0, 0)) (by (with_reducible repeat (first | refine blk_drewN ?_ _ | refine blk_drew ?_ | refine blk_alloc ?_ _)); exact BK185.out) hg (Kd.R_away HO_184001.out (fun _ hk => hk.2.1))); have n4_ := Aside0.mk (blk_grown (g := gb193) (o := .cells #[.int .i64 ((rd_T100 x184001_2 (wrap64 ((x184001_2.length : Int) - 1))).f0), .int .i64 ((rd_T100 x184001_2 (wrap64 ((x184001_2.length : Int) - 1))).f1)] 100 (0, 0)) (by (with_reducible repeat (first | refine blk_drewN ?_ _ | refine blk_drew ?_ | refine blk_alloc ?_ _)); exact BK193.out) hg (Kd.R_away HO_184001.out (fun _ hk => hk.2.2))); have n5_ := Aside0.mk ((by rw [hw]; exact below_set (below_set (HB.out) GB68.out) GB68.out : Below w1_.heap.size w1_ w83)); clear HO_54; clear HO_184001; clear BK183; clear BK185; clear BK193; clear HB; have HO_54 := n0_; have HO_184001 := n1_; have BK183 := n2_; have BK185 := n3_; have BK193 := n4_; have HB := n5_; clear n0_ n1_ n2_ n3_ n4_ n5_; clear hg hw hp_))
               (try simp only [← hl54_2])
               go_roundg kj21
               case measure => have := HK1.out; have := HK2.out; have := HJ21.out; omega
               case rel => exact ⟨(x54_2), (wrap64 (x56_2 + 1)), (y198), (.slice (some ⟨go68, 0, none⟩) x184001_2.length co27), (by first | rfl | (simp; done) | (simp [*]; done)), H', ⟨by have := HK1.out; have := HK2.out; have := HJ21.out; omega⟩, ⟨by (try simp only [hl54_2]); (with_reducible repeat (first | apply Kd.R_alloc | apply Kd.R_drewN | apply Kd.R_drew)); exact Kd.R_mono HO_54.out (fun _ hk => hk.2)⟩, ⟨by (try simp only [hl54_2]); (with_reducible repeat (first | apply Kd.R_alloc | apply Kd.R_drewN | apply Kd.R_drew)); exact Kd.R_mono HO_184001.out (fun _ hk => hk.1)⟩, ⟨by (try simp only [hl54_2]); (with_reducible repeat (first | refine blk_drewN ?_ _ | refine blk_drew ?_ | refine blk_alloc ?_ _)); exact BK183.out⟩, ⟨by repeat (first | (with_reducible first | exact HB.out | apply below_alloc | apply pw_below_drewN | apply below_drew1 | refine below_set ?_ GE183.out | refine below_set ?_ GE185.out | refine below_set ?_ GE193.out) | exact HB.out)⟩⟩
             ·rw [if_neg c46] at H
              exact absurd H (by simp)
            ·rw [if_neg c45] at H
             exact absurd H (by simp)
        ·rw [if_neg c21] at H
         exact absurd H (by simp)
       ·rw [if_neg c20] at H
        exact absurd H (by simp)
      ·rw [if_neg c19] at H
       have c19b0 : decide (x56_2 < (x6_1.length : Int)) = false := decide_eq_false c19
       have c19b0z := c19b0
       (try simp only [hl54_2] at c19b0z)
       clear c19
       simp only [Option.some.injEq, Prod.mk.injEq] at H
       obtain ⟨rfl, rfl⟩ := H
       go_wp2
       go_ret
       obtain ⟨Af_, cf_, ef_⟩ := Kd.R_slice HO_184001.out
       subst ef_
       refine settled_up HUP.out (g := gb183) ⟨_, _, by (with_reducible repeat (first | refine blk_drewN ?_ _ | refine blk_drew ?_ | refine blk_alloc ?_ _)); exact BK183.out, (Kd.R_reads' (show Kd.R k100 100 _ w1_.heap.size _ _ _ from HO_184001.out)).2.2, by have hz_ := (Kd.R_reads' HO_184001.out).2.1; omega⟩ GE183.out (by repeat (first | (with_reducible first | exact HB.out | apply below_alloc | apply pw_below_drewN | apply below_drew1 | refine below_set ?_ GE183.out) | exact HB.out))

end Go.Proofs.YtijbkiajhicooaaDoor.PW

