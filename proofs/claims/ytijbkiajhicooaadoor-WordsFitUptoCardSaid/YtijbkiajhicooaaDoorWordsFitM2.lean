-- Written by merge.py, a program of this session's: PWx30 PWx31 PWx1 PWx5 PWx8 PWx9 PWx10 PWx11
import Derived.Lib.OthersKept
import Derived.Maps.OwnIn
import Derived.RangeFuncNested
import Derived.RangeFuncLeaves
import Derived.Shelf.Abstract
import Derived.Shelf.RegionOpen
import Derived.OwnWalkIn
import Derived.TacticsInMore
import Derived.LoopNIn
import Derived.LoopIn
import Derived.Test.YtijbkiajhicooaaDoorWordsFitM1
namespace Go.Proofs.YtijbkiajhicooaaDoor.PW
open Go.RowKit Go.Proofs.YtijbkiajhicooaaDoorW.PrintWords Go.Proofs.YtijbkiajhicooaaDoorW.PrintLast Go.Proofs.YtijbkiajhicooaaDoorW.PrintMore
attribute [local go_sem] max2_int min2_int max_two min_two max_three min_three max_four min_four   -- for this text's walks alone
set_option linter.unusedVariables false
set_option linter.unusedSimpArgs false

def intVal : Value → Int
 | .int _ n => n
 | _ => 0
def edgesOf (xs : List PStep) : List Int := 0 :: xs.map fun x => wrap64 (x.1 + x.2.2.1)
def blanksOf (xs : List PStep) : List Bool := false :: xs.map fun x => kindOf x.2.1 x.2.2.2 == 1
/-- Back from p to the last blank edge behind s. -/
def scanB (bl : List Bool) (s : Int) : Nat → Int → Int
 | 0, p => p
 | k + 1, p => if s < p ∧ rdOf false bl p = false then scanB bl s k (p - 1) else p
/-- The break behind s. -/
def cutOf (bl : List Bool) (w s : Int) : Int := if scanB bl s w.toNat (s + w) = s then s + w else scanB bl s w.toNat (s + w)
def wrapGo (es : List Int) (bl : List Bool) (start w : Int) : Nat → Int → List Int → List Int
 | 0, _, out => out
 | k + 1, s, out => if w < (es.length : Int) - 1 - s then wrapGo es bl start w k (cutOf bl w s) (out ++ [wrap64 (start + rd es (cutOf bl w s))]) else out
def wrapsOf (l0 : List Int) (start w : Int) : List Int := wrapGo (edgesOf (allSteps (strOfNums l0))) (blanksOf (allSteps (strOfNums l0))) start w (edgesOf (allSteps (strOfNums l0))).length 0 []
def words_wrapped.f (l0 : List Int) (a1 a2 : Int) : Option (List Int) := if l0.length ≤ 4398046511103 ∧ 1 ≤ a2 ∧ a2 ≤ 65536 then some (wrapsOf l0 a1 a2) else none
theorem scanB_le (bl : List Bool) (s : Int) : ∀ (k : Nat) (p : Int), s ≤ p → s ≤ scanB bl s k p ∧ scanB bl s k p ≤ p := by
 intro k
 induction k with
 | zero => intro p h; exact ⟨h, Int.le_refl _⟩
 | succ k ih =>
  intro p h
  unfold scanB
  by_cases hc : s < p ∧ rdOf false bl p = false
  ·rw [if_pos hc]
   have := ih (p - 1) (by omega)
   omega
  ·rw [if_neg hc]
   exact ⟨h, Int.le_refl _⟩
theorem cutOf_le (bl : List Bool) (w s : Int) (hw : 1 ≤ w) : s < cutOf bl w s ∧ cutOf bl w s ≤ s + w := by
 unfold cutOf
 have := scanB_le bl s w.toNat (s + w) (by omega)
 split <;> omega
theorem R_append_stepIn {F : Fence} {nF : Nat} {P : Program} {ops : Array Oper} {o : Oper} {a : Act} {Q : Exit → Act → World → Prop} {Kc : Act → World → Prop} {α : Type} (d : Kd α) {w0 W : World} (base : Nat) (hw : Region.wanted o (yielded ops a.tmps) = true) (s x : Operand) (t e : TypeId) (z : Value) (bytes : Nat)
  (ho : o.op = .call { callee := .builtin .append, args := #[s, x], argTypes := #[t, t] })
  (ht : P.underlying t = some (.slice e)) (hinfo : (P.info? e).map (fun i => (i.zero, i.size, i.bytes)) = some (some z, d.sz, bytes)) (hz : z.cells.size = d.sz) (hs0 : 0 < d.sz) (hb0 : 0 < bytes)
  (v : Value) (xs : List α) (p : α) (cs : List Value) (ok okp : Nat → Prop) (hs : a.eval s = v) (hx : a.eval x = .slice (some ⟨W.heap.size, 0, none⟩) 1 1) (hp : d.M W base okp p cs) (hokp : ∀ k, okp k → ok k ∧ some k ≠ v.ownBlock) (hfresh : ∀ k, W.heap.size ≤ k → ok k)
  (HO : d.R e W base ok v xs) (HB : Below base w0 W) (hbase : base ≤ W.heap.size) (hl : (xs.length + 1) * bytes ≤ 140737488355328)
  (h : ∀ v1 w1, d.R e w1 base ok v1 (xs ++ [p]) → Below base w0 w1 → W.grownBy w1 v.ownBlock → Kc (a.put o.dst v1) w1) :
  if Region.wanted o (yielded ops a.tmps) = true then Oper.wpIn F nF P o a (W.alloc (.cells cs.toArray e)) Kc Q else (∀ f, o.about P (W.alloc (.cells cs.toArray e)) a.eval = some f → F.fn f) ∧ Kc (a.put o.dst undef) (W.alloc (.cells cs.toArray e)) := by
 obtain ⟨h0, inner, hown, hr⟩ := HO
 obtain ⟨i0, hi, hzz⟩ := Option.map_eq_some_iff.1 hinfo
 simp only [Prod.mk.injEq] at hzz
 obtain ⟨hz0, hz1, hz2⟩ := hzz
 have hlen : xs.length + 1 ≤ 140737488355328 := Nat.le_trans (Nat.le_mul_of_pos_right _ hb0) hl
 have hys : cs.length = d.sz := d.K_len (d.K_of_M hp)
 rw [if_pos hw]
 obtain ⟨v1, w1, hrr, hown1, hg, _, hat⟩ := run_append_own_at (P := P) (W.alloc (.cells cs.toArray e)) base t o.type e i0 z d.sz bytes ht hi hz0 hz1 hz2 hz hs0 v xs.length inner (hown.alloc _) ⟨W.heap.size, 0, none⟩ 1 1 cs (by rw [hys]; simp)
  (by simpa using World.news_of_block (cs := cs.toArray) (t := e) (fr := (0, 0)) (heap_alloc_new W (.cells cs.toArray e))) (d.K_one (d.K_of_M hp)) (by simp only [maxLen]; omega) hl (by simp; omega)
 have hg1 : W.grownBy w1 v.ownBlock := World.grownBy.trans (World.grownBy_alloc W _ _) hg
 have hat1 : v1.ownBlock = v.ownBlock ∨ ∃ b, v1.ownBlock = some b ∧ W.heap.size ≤ b := by
  rcases hat with hat | hat
  ·exact .inl hat
  ·exact .inr ⟨_, hat, by simp⟩
 unfold Oper.wpIn
 refine ⟨by simp [Oper.about, ho, resolve, Target.leads, Sem.run_pure], ?_⟩
 rw [Oper.semAt_plain F _ _ (by rw [ho]; intro c hc'; cases hc')]
 simp [execOp, ho, resolve, invoke, builtin, hs, hx, hrr, Result.andThen]
 exact h v1 w1 (Kd.R_appended h0 hr hp hokp hfresh hown1 hg1 hat1) (HB.grown hg1 hbase (own_base hown)) hg1
theorem wr_infoB : (Tryd.prog.info? 4).map (fun i => (i.zero, i.size, i.bytes)) = some (some (.bool false), 1, 1) := by kernel_rfl
theorem R_oneI (w W : World) (hB : Below w.heap.size w W) (n : Int) : (Kd.int .i64).R 3 (W.alloc (.cells #[.int .i64 n] 3)) w.heap.size (fun _ => True) (.slice (some ⟨W.heap.size, 0, none⟩) 1 1) [n] := by
 have h2 := World.ownsRow_lit (base := w.heap.size) (e := 3) (size := 1) W #[.int .i64 n] 1 hB.size (by simp [maxLen]) (by simp)
 exact ⟨fun _ _ => trivial, [.int .i64 n], (by simpa using h2 : World.ownsRow _ _ _ 1 _ 1 _), Kd.reps_scalar [n]⟩
theorem R_oneB (w W : World) (hB : Below w.heap.size w W) (n : Bool) : Kd.bool.R 4 (W.alloc (.cells #[.bool n] 4)) w.heap.size (fun _ => True) (.slice (some ⟨W.heap.size, 0, none⟩) 1 1) [n] := by
 have h2 := World.ownsRow_lit (base := w.heap.size) (e := 4) (size := 1) W #[.bool n] 1 hB.size (by simp [maxLen]) (by simp)
 exact ⟨fun _ _ => trivial, [.bool n], (by simpa using h2 : World.ownsRow _ _ _ 1 _ 1 _), Kd.reps_scalar [n]⟩
/-- How a round of the loop is left. -/
def WrapPost (B n₀ : Nat) (s : ByteArray) (es : List Int) (bs : List Bool) (w W : World) : Exit → Act → World → Prop := fun e _ V => e = .normal ∧ KeepsFrom B W V ∧ KpBox n₀ (n₀ + 4) W V ∧ Below n₀ w V ∧
 ∃ vE vB, V.heap[n₀ + 1]? = some (.cells #[vE] 69 (0, 0)) ∧ V.heap[n₀ + 3]? = some (.cells #[vB] 147 (0, 0)) ∧ (Kd.int .i64).R 3 V n₀ (fun _ => True) vE es ∧ Kd.bool.R 4 V n₀ (fun _ => True) vB bs
theorem wrapPost_of {B : Nat} {w V X Xk w2 : World} {s : ByteArray} {es : List Int} {bs bs2 : List Bool} {vE vB vB' v3 : Value} (a' : Act) (hB : Below w.heap.size w V) (hbs : V.heap[w.heap.size + 4]? = some (.cells #[.string s] 9 (0, 0))) (hb4 : Below w.heap.size V X) (ho4 : KeepsOthers V X)
  (hE4 : X.heap[w.heap.size + 1]? = some (.cells #[vE] 69 (0, 0))) (hbs4 : X.heap[w.heap.size + 4]? = some (.cells #[.string s] 9 (0, 0))) (HRE : (Kd.int .i64).R 3 X w.heap.size (fun _ => True) vE es) (HRB : Kd.bool.R 4 X w.heap.size (fun _ => True) vB bs)
  (hbk : Below X.heap.size X Xk) (HG4 : Xk.grownBy w2 vB.ownBlock) (HB5 : Below w.heap.size X w2) (HBE : w2.heap[w.heap.size + 3]? = some (.cells #[vB'] 147 (0, 0))) (HR4 : Kd.bool.R 4 w2 w.heap.size (fun _ => True) v3 bs2) :
  WrapPost B w.heap.size s es bs2 w V .normal a' (w2.setCell ⟨w.heap.size + 3, 0, none⟩ v3) := by
 have hRBk := Kd.R_below HRB hbk
 have hK : KeepsOthers X Xk := KeepsOthers.of_grownBy (grown_of_below hbk none) (fun j o hj _ => by cases hj)
 have hO : KeepsOthers V (w2.setCell ⟨w.heap.size + 3, 0, none⟩ v3) := ((ho4.trans hK).trans (keepsOthers_R hRBk HG4)).trans (KeepsOthers.setCell _ _ _)
 have hb : Below w.heap.size V (w2.setCell ⟨w.heap.size + 3, 0, none⟩ v3) := (hb4.trans HB5).setCell (p := ⟨w.heap.size + 3, 0, none⟩) (by show w.heap.size ≤ w.heap.size + 3; omega) _
 have hbsk := blk_below hbs4 hbk
 have hs2 := blk_far (blk_grown hbsk HG4 (R_ne_blk hRBk hbsk (by decide))) (p := ⟨w.heap.size + 3, 0, none⟩) (by simp) v3
 have hEk := blk_below hE4 hbk
 have hE2 := blk_far (blk_grown hEk HG4 (R_ne_blk hRBk hEk (by decide))) (p := ⟨w.heap.size + 3, 0, none⟩) (by simp) v3
 exact ⟨rfl, hO.from _, KpBox.of hb (hs2.trans hbs.symm) hO, hB.trans hb, vE, v3, hE2, blk_set HBE 0 _, Kd.R_set (Kd.R_over' (Kd.R_below HRE hbk) (Kd.R_typed hRBk) (by decide) HG4) HBE (by decide) _ _, Kd.R_set HR4 HBE (by decide) _ _⟩
attribute [local go_sem] Oper.semAt_some
set_option maxRecDepth 100000 in
set_option maxHeartbeats 4000000 in
theorem words_wrapped.walk (A0 : Option Addr) (c0 : Nat) (l0 : List Int) (a1 a2 : Int) (w : World) (hr0 : Kd.C (Kd.int .u8) w A0 l0.length l0) (hc0 : l0.length ≤ c0) (hL : LaidBad w) (hlim : l0.length ≤ 4398046511103) (hw1 : 1 ≤ a2) (hw2 : a2 ≤ 65536) :
  CallsIn Fence.wide 10 Tryd.prog 66 #[.slice A0 l0.length c0, .int .i64 a1, .int .i64 a2] w fun e w' => ∃ v0_ : Value, e = .returned (v0_) ∧ Kd.R (Kd.int .i64) 3 w' w.heap.size (fun _ => True) v0_ (wrapsOf l0 a1 a2) ∧ Below w.heap.size w w' := by
 refine callsIn_of_wp_marks Tryd.func66 rfl trivial ?_ rfl
 simp only [Tryd.ntmps66, List.size_toArray, List.length_cons, List.length_nil, Nat.reduceAdd, Nat.reduceSub, Array.replicate_succ, Array.replicate_zero, List.push_toArray, List.append_toArray, List.nil_append, List.cons_append]
 obtain ⟨W1, hW1⟩ : ∃ W1, (((w.alloc (.cells #[.int .i64 0] 3)).alloc (.cells #[.slice (some ⟨w.heap.size, 0, none⟩) 1 1] 69)).alloc (.cells #[.bool false] 4)).alloc (.cells #[.slice (some ⟨w.heap.size + 2, 0, none⟩) 1 1] 147) = W1 := ⟨_, rfl⟩
 have hB1 : Below w.heap.size w W1 := by rw [← hW1]; exact ((((Below.refl _ w).alloc (Nat.le_refl _) _).alloc (by simp) _).alloc (by simp; omega) _).alloc (by simp; omega) _
 have HR1 := Aside0.mk (Kd.C_below hr0 hB1)
 have HR0 := Aside0.mk hr0
 clear hr0
 gi_wp2_with (refine ⟨trivial, ?_⟩; gi_at_call 47; refine (callsIn_wide.2 (step_All.calls A0 c0 l0 _ HR1.out hc0)).mono ?_; rintro e w' ⟨rfl, rfl⟩)
 have hE1 : W1.heap[w.heap.size + 1]? = some (.cells #[.slice (some ⟨w.heap.size, 0, none⟩) 1 1] 69 (0, 0)) := by
  rw [← hW1]; have := blk_new (w.alloc (.cells #[.int .i64 0] 3)) (.cells #[.slice (some ⟨w.heap.size, 0, none⟩) 1 1] 69); rw [World.size_alloc] at this; exact blk_alloc (blk_alloc this _) _
 have hK1 : W1.heap[w.heap.size + 3]? = some (.cells #[.slice (some ⟨w.heap.size + 2, 0, none⟩) 1 1] 147 (0, 0)) := by
  rw [← hW1]; have := blk_new (((w.alloc (.cells #[.int .i64 0] 3)).alloc (.cells #[.slice (some ⟨w.heap.size, 0, none⟩) 1 1] 69)).alloc (.cells #[.bool false] 4)) (.cells #[.slice (some ⟨w.heap.size + 2, 0, none⟩) 1 1] 147); rwa [World.size_alloc, World.size_alloc, World.size_alloc] at this
 have hRE1 : (Kd.int .i64).R 3 W1 w.heap.size (fun _ => True) (.slice (some ⟨w.heap.size, 0, none⟩) 1 1) [0] := by
  rw [← hW1]; exact Kd.R_alloc (Kd.R_alloc (Kd.R_alloc (R_oneI w w (Below.refl _ _) 0) _) _) _
 have hRB1 : Kd.bool.R 4 W1 w.heap.size (fun _ => True) (.slice (some ⟨w.heap.size + 2, 0, none⟩) 1 1) [false] := by
  rw [← hW1]
  have h := R_oneB w ((w.alloc (.cells #[.int .i64 0] 3)).alloc (.cells #[.slice (some ⟨w.heap.size, 0, none⟩) 1 1] 69)) (((Below.refl _ w).alloc (Nat.le_refl _) _).alloc (by simp) _) false
  rw [World.size_alloc, World.size_alloc] at h
  exact Kd.R_alloc h _
 have hs1 : W1.heap.size = w.heap.size + 4 := by rw [← hW1]; simp
 clear hW1
 obtain ⟨W2, hW2⟩ : ∃ W2, W1.alloc (.cells #[.string (strOfNums l0)] 9) = W2 := ⟨_, rfl⟩
 have bs2 : W2.heap[w.heap.size + 4]? = some (.cells #[.string (strOfNums l0)] 9 (0, 0)) := by rw [← hW2, ← hs1]; exact blk_new W1 _
 have hB2 : Below w.heap.size w W2 := by rw [← hW2]; exact hB1.alloc hB1.size _
 have hE2 : W2.heap[w.heap.size + 1]? = some (.cells #[.slice (some ⟨w.heap.size, 0, none⟩) 1 1] 69 (0, 0)) := by rw [← hW2]; exact blk_alloc hE1 _
 have hK2 : W2.heap[w.heap.size + 3]? = some (.cells #[.slice (some ⟨w.heap.size + 2, 0, none⟩) 1 1] 147 (0, 0)) := by rw [← hW2]; exact blk_alloc hK1 _
 have hRE2 : (Kd.int .i64).R 3 W2 w.heap.size (fun _ => True) (.slice (some ⟨w.heap.size, 0, none⟩) 1 1) [0] := by rw [← hW2]; exact Kd.R_alloc hRE1 _
 have hRB2 : Kd.bool.R 4 W2 w.heap.size (fun _ => True) (.slice (some ⟨w.heap.size + 2, 0, none⟩) 1 1) [false] := by rw [← hW2]; exact Kd.R_alloc hRB1 _
 have hs2 : W2.heap.size = w.heap.size + 5 := by rw [← hW2]; simp [hs1]
 have hL2 := laid_below hL hB2
 have hpos : 0 < w.heap.size := laid_lt hL
 have hns : (strOfNums l0).size ≤ 4398046511103 := by rw [strOfNums_size]; exact hlim
 have hN : (allSteps (strOfNums l0)).length ≤ 4398046511103 := Nat.le_trans (stepsFrom_length _ _) (by omega)
 rw [hW2, hs1]
 clear hW2 hE1 hK1 hRE1 hRB1 HR1 hB1 hs1 HR0
 refine wpIn_rangeFunc_ownH rfl (by decide) (gf := 72) (lb := #[.pointer (some ⟨w.heap.size + 4, 0, none⟩)]) rfl trivial (enters_of Tryd.func72 (by kernel_rfl) rfl)
  (step_All1.stops (10 - 1) (w.heap.size + 4) w.heap.size (by decide) (strOfNums l0) (by omega) hpos W2 bs2 hB2.size hL2) KpBox.t (KpBox.b hB2.size (by omega)) (Below.refl _ _) (fun _ => rfl)
  (fun pre V => (Below w.heap.size w V ∧ V.heap[w.heap.size + 4]? = some (.cells #[.string (strOfNums l0)] 9 (0, 0))) ∧ ∃ vE vB, V.heap[w.heap.size + 1]? = some (.cells #[vE] 69 (0, 0)) ∧ V.heap[w.heap.size + 3]? = some (.cells #[vB] 147 (0, 0)) ∧ (Kd.int .i64).R 3 V w.heap.size (fun _ => True) vE (edgesOf pre) ∧ Kd.bool.R 4 V w.heap.size (fun _ => True) vB (blanksOf pre))
  (fun _ _ _ => False)
  (fun s X Y row hs hg hr => by
   obtain ⟨⟨h1, h2⟩, vE, vB, h3, h4, h5, h6⟩ := hs
   exact ⟨⟨ownFrom_below (Nat.le_refl _) hB2.size s X Y row h1 hg hr, blk_abides h2 hg (fun r e => (hr r e).2)⟩, vE, vB, blk_abides h3 hg (fun r e => (hr r e).2), blk_abides h4 hg (fun r e => (hr r e).2), R_abides h5 hg (fun r e => (hr r e).2), R_abides h6 hg (fun r e => (hr r e).2)⟩)
  (fun _ _ _ _ _ hs _ _ => hs)
  ⟨⟨hB2, bs2⟩, _, _, hE2, hK2, hRE2, hRB2⟩
  (fun x a' V => ∃ Bx, W2.heap.size ≤ Bx ∧ V.heap[Bx]? = some (.cells #[.int .i32 x.2.1, .int .i64 x.2.2.1, .bool x.2.2.2] 23 (0, 0)) ∧ a' = { tmps := #[.slice A0 l0.length c0, .int .i64 a1, .int .i64 a2, undef, undef, undef, .slice none 0 0, .pointer (some ⟨w.heap.size + 1, 0, none⟩), .pointer (some ⟨w.heap.size + 3, 0, none⟩), .int .i64 x.1, .pointer (some ⟨Bx, 0, none⟩), undef, undef, undef, .slice (some ⟨w.heap.size, 0, none⟩) 1 1, .slice (some ⟨w.heap.size + 2, 0, none⟩) 1 1, .slice A0 l0.length c0, .func (.func 72) #[] #[.pointer (some ⟨w.heap.size + 4, 0, none⟩)], .int .i64 x.1, .agg #[.int .i32 x.2.1, .int .i64 x.2.2.1, .bool x.2.2.2], undef, undef, undef, undef, undef, undef, undef, undef, undef, undef, undef, undef, undef, undef, undef, undef, undef, undef, undef, undef, undef, undef, undef, undef, undef, undef, undef, undef, undef, undef, undef, undef, undef, undef, undef, undef, undef, undef, undef, undef, undef, undef, undef, undef, undef, undef, undef, undef, undef, undef, undef, undef], defers := [] })
  (fun x a' _ X Y row hs hg hr => by obtain ⟨Bx, h1, h2, h3⟩ := hs; exact ⟨Bx, h1, blk_abides h2 hg (fun r e => (hr r e).2), h3⟩)
  ?assign ?body ?done ?stop
 case assign =>
  rintro l' pre x V K ⟨⟨hB, hbs⟩, vE, vB, hE, hK', hRE, hRB⟩ hK
  gi_wp2
  have hlt := blk_lt hbs
  exact hK _ _ ((KeepsOthers.alloc _ _).from _) (KpBox.of ((Below.refl _ V).alloc hB.size _) ((blk_alloc hbs _).trans hbs.symm) (KeepsOthers.alloc _ _)) ⟨⟨hB.alloc hB.size _, blk_alloc hbs _⟩, vE, vB, blk_alloc hE _, blk_alloc hK' _, Kd.R_alloc hRE _, Kd.R_alloc hRB _⟩ ⟨V.heap.size, by omega, blk_new V _, rfl⟩
 case body =>
  rintro l' pre x a' V hl' ⟨r, hr⟩ ⟨⟨hB, hbs⟩, vE, vB, hE, hK', hRE, hRB⟩ ⟨Bx, hBx, hbx, rfl⟩ hlen
  obtain ⟨xp, xr, xw, xb⟩ := x
  dsimp only at hbx ⊢
  refine wpIn_mono (Q := WrapPost W2.heap.size w.heap.size (strOfNums l0) (edgesOf pre ++ [wrap64 (xp + xw)]) (blanksOf pre ++ [kindOf xr xb == 1]) w V) ?walk ?post
  case post =>
   rintro e a9 V2 ⟨rfl, g1, g2, g3, vE2, vB2, g4, g5, g6, g7⟩
   exact ⟨g1, g2, ⟨g3, g2.2.1.trans hbs⟩, vE2, vB2, g4, g5, by simpa [edgesOf] using g6, by simpa [blanksOf] using g7⟩
  have hle : (edgesOf pre).length ≤ 4398046511104 := by simp [edgesOf]; omega
  have hlb : (blanksOf pre).length ≤ 4398046511104 := by simp [blanksOf]; omega
  generalize edgesOf pre = es at *
  generalize blanksOf pre = bs at *
  have HK := Aside0.mk (words_Kind.is xr xw xb)
  generalize kindOf xr xb = kd at *
  obtain ⟨AE, cE, rfl⟩ := Kd.R_slice hRE
  have c1 := blk_cell hE 0
  have f1 := blk_frozen hE 0
  have cx0 := blk_cell hbx 0
  have cx1 := blk_cell hbx 1
  have cx2 := blk_cell hbx 2
  have HRE := Aside0.mk hRE
  have HRB := Aside0.mk hRB
  have HLE := Aside0.mk (show (es.length + 1) * 8 ≤ 140737488355328 by omega)
  have HLB := Aside0.mk (show (bs.length + 1) * 1 ≤ 140737488355328 by omega)
  have hmx : Tryd.prog.follows .mixedOrders = true := by kernel_rfl
  clear hRE hRB hle hlb
  gi_wp2_with (gi_at_builtin; refine R_appendIn (Kd.int .i64) (w0 := V) w.heap.size rfl (.tmp 20) (.tmp 25) 69 3 (.int .i64 0) 8 rfl Tryd.underlying69 info3 rfl (by decide) (by decide) (.slice AE es.length cE) es (wrap64 (xp + xw)) [.int .i64 (wrap64 (xp + xw))] (fun _ => True) (fun _ => False) rfl rfl rfl (fun _ hk => hk.elim) (fun _ _ => trivial) HRE.out (Below.refl _ _) hB.size HLE.out ?_; intro v1 w1 HR1 HB2 hg1 hnn; have hb1 := blk_grown hE hg1 (R_ne_blk HRE.out hE (by decide)); have hc2 := blk_cell hb1 0; have hf2 := blk_frozen hb1 0; have HR2 := Aside0.mk HR1; have HG2 := Aside0.mk hg1; have HB3 := Aside0.mk HB2; have HBX := Aside0.mk hb1; obtain ⟨A2, c2, rfl⟩ := Kd.R_slice HR1; clear HR1 hg1 HB2 hnn hb1; have HR2 := Aside0.mk (show (Kd.int .i64).R 3 w1 w.heap.size (fun _ => True) (.slice A2 (es.length + 1) c2) (es ++ [wrap64 (xp + xw)]) from by have := HR2.out; rwa [List.length_append, List.length_singleton] at this))
  obtain ⟨V2, hV2⟩ : ∃ V2, w1.setCell ⟨w.heap.size + 1, 0, none⟩ (.slice A2 (es.length + 1) c2) = V2 := ⟨_, rfl⟩
  have hE3 : V2.heap[w.heap.size + 1]? = some (.cells #[.slice A2 (es.length + 1) c2] 69 (0, 0)) := by rw [← hV2]; exact blk_set HBX.out 0 _
  have hK3 : V2.heap[w.heap.size + 3]? = some (.cells #[vB] 147 (0, 0)) := by rw [← hV2]; exact blk_far (blk_grown hK' HG2.out (R_ne_blk HRE.out hK' (by decide))) (p := ⟨w.heap.size + 1, 0, none⟩) (by simp) _
  have hlt := blk_lt hbs
  have hbs3 : V2.heap[w.heap.size + 4]? = some (.cells #[.string (strOfNums l0)] 9 (0, 0)) := by rw [← hV2]; exact blk_far (blk_grown hbs HG2.out (R_ne_blk HRE.out hbs (by decide))) (p := ⟨w.heap.size + 1, 0, none⟩) (by simp) _
  have hbx3 : V2.heap[Bx]? = some (.cells #[.int .i32 xr, .int .i64 xw, .bool xb] 23 (0, 0)) := by rw [← hV2]; exact blk_far (blk_grown hbx HG2.out (R_ne_blk HRE.out hbx (by decide))) (p := ⟨w.heap.size + 1, 0, none⟩) (by simp; omega) _
  have hRE3 : (Kd.int .i64).R 3 V2 w.heap.size (fun _ => True) (.slice A2 (es.length + 1) c2) (es ++ [wrap64 (xp + xw)]) := by rw [← hV2]; exact Kd.R_set HR2.out HBX.out (by decide) _ _
  have hRB3 : Kd.bool.R 4 V2 w.heap.size (fun _ => True) vB bs := by rw [← hV2]; exact Kd.R_set (Kd.R_over' HRB.out (Kd.R_typed HRE.out) (by decide) HG2.out) HBX.out (by decide) _ _
  have hb3 : Below w.heap.size V V2 := by rw [← hV2]; exact HB3.out.setCell (p := ⟨w.heap.size + 1, 0, none⟩) (Nat.le_succ _) _
  have ho3 : KeepsOthers V V2 := by rw [← hV2]; exact (keepsOthers_R HRE.out HG2.out).trans (KeepsOthers.setCell _ _ _)
  rw [hV2]
  clear hV2 hc2 hf2 HBX HB3 HG2 HR2 hE hK' hbx c1 f1 cx0 cx1 cx2 HRE HRB hr
  generalize es ++ [wrap64 (xp + xw)] = es2 at *
  generalize es.length + 1 = n2 at *
  refine wpIn_region_any (by assumption) ?_
  try (change wpAnyIn _ _ _ _ _ _ _ _ _ (World.drew _))
  obtain ⟨X, hX⟩ : ∃ X, V2.drew = X := ⟨_, rfl⟩
  have hE4 : X.heap[w.heap.size + 1]? = some (.cells #[.slice A2 n2 c2] 69 (0, 0)) := by rw [← hX]; exact hE3
  have hK4 : X.heap[w.heap.size + 3]? = some (.cells #[vB] 147 (0, 0)) := by rw [← hX]; exact hK3
  have hbs4 : X.heap[w.heap.size + 4]? = some (.cells #[.string (strOfNums l0)] 9 (0, 0)) := by rw [← hX]; exact hbs3
  have hbx4 : X.heap[Bx]? = some (.cells #[.int .i32 xr, .int .i64 xw, .bool xb] 23 (0, 0)) := by rw [← hX]; exact hbx3
  have hRE4 : (Kd.int .i64).R 3 X w.heap.size (fun _ => True) (.slice A2 n2 c2) es2 := by rw [← hX]; exact Kd.R_drew hRE3
  have hRB4 : Kd.bool.R 4 X w.heap.size (fun _ => True) vB bs := by rw [← hX]; exact Kd.R_drew hRB3
  have hb4 : Below w.heap.size V X := by rw [← hX]; exact hb3.drew
  have ho4 : KeepsOthers V X := by rw [← hX]; exact ho3.trans (KeepsOthers.drew _)
  rw [hX]
  clear hX hE3 hK3 hbs3 hbx3 hRE3 hRB3 hb3 ho3
  obtain ⟨AB, cB, rfl⟩ := Kd.R_slice hRB4
  have cK := blk_cell hK4 0
  have cx0 := blk_cell hbx4 0
  have cx1 := blk_cell hbx4 1
  have cx2 := blk_cell hbx4 2
  have HRE := Aside0.mk hRE4
  have HRB := Aside0.mk hRB4
  have hu := Tryd.underlying23
  clear hRE4 hRB4
  have hb4S : w.heap.size ≤ X.heap.size := Nat.le_trans hB.size hb4.size
  refine wpAnyIn_ready (rs := [0, 1]) (by kernel_rfl) (by simp) ?_
  refine AllReadyIn.cons rfl (fun K hK => ?_) ?_
  ·go_simp
   refine hK _ _ ?_
   clear hK K
   refine wpAnyIn_ready (rs := [1]) (by kernel_rfl) (by simp) ?_
   refine AllReadyIn.cons rfl (fun K hK => ?_) ?_
   ·go_simp
    refine hK _ _ ?_
    clear hK K
    refine wpAnyIn_ready (rs := [2]) (by kernel_rfl) (by simp) ?_
    refine AllReadyIn.cons rfl (fun K hK => ?_) ?_
    ·go_simp
     gi_wp2_with (refine ⟨trivial, ?_⟩; gi_at_call 14; refine (CallsIn.inRound l' (callsIn_wide.2 (words_Kind.calls 3 xr xw xb kd _ HK.out))).mono ?_; rintro e Xk ⟨rfl, hbk⟩; replace hK4 := blk_below hK4 hbk; replace cK := blk_cell hK4 0)
     have cKa := blk_cell (blk_alloc hK4 (.cells #[.bool (kd == 1)] 4)) 0
     refine wpAnyIn_ready (rs := [3]) (by kernel_rfl) (by simp) ?_
     refine AllReadyIn.cons rfl (fun K hK => ?_) ?_
     ·go_simp
      refine hK _ _ ?_
      clear hK K
      refine wpAnyIn_ready (rs := [4]) (by kernel_rfl) (by simp) ?_
      refine AllReadyIn.cons rfl (fun K hK => ?_) ?_
      ·go_simp
       refine hK _ _ ?_
       clear hK K
       refine wpAnyIn_ready (rs := [5]) (by kernel_rfl) (by simp) ?_
       refine AllReadyIn.cons rfl (fun K hK => ?_) ?_
       ·refine R_append_stepIn Kd.bool (w0 := X) w.heap.size rfl (.tmp 27) (.tmp 31) 147 4 (.bool false) 1 rfl Tryd.underlying147 wr_infoB rfl (by decide) (by decide) (.slice AB bs.length cB) bs (kd == 1) [.bool (kd == 1)] (fun _ => True) (fun _ => False) rfl rfl rfl (fun _ hk => hk.elim) (fun _ _ => trivial) (Kd.R_below HRB.out hbk) (hbk.mono hb4S) (Nat.le_trans hb4S hbk.size) HLB.out ?_
        intro v2 w2 HR3 HB4 hg3
        obtain ⟨A3, c3, rfl⟩ := Kd.R_slice HR3
        rw [List.length_append, List.length_singleton] at HR3
        have hbe := blk_grown hK4 hg3 (R_ne_blk (Kd.R_below HRB.out hbk) hK4 (by decide))
        have cK2 := blk_cell hbe 0
        have fK2 := blk_frozen hbe 0
        have HR4 := Aside0.mk HR3
        have HG4 := Aside0.mk hg3
        have HB5 := Aside0.mk HB4
        have HBE := Aside0.mk hbe
        clear HR3 HB4 hg3 hbe cK cKa
        refine hK _ _ ?_
        clear hK K
        refine wpAnyIn_ready (rs := [6]) (by kernel_rfl) (by simp) ?_
        refine AllReadyIn.cons rfl (fun K hK => ?_) ?_
        ·go_simp
         refine hK _ _ ?_
         clear hK K
         refine wpAnyIn_done (by kernel_rfl) ?_ _
         (gi_wp2; exact wrapPost_of _ hB hbs hb4 ho4 hE4 hbs4 HRE.out HRB.out hbk HG4.out HB5.out HBE.out HR4.out)
        exact AllReadyIn.nil
       exact AllReadyIn.nil
      exact AllReadyIn.nil
     exact AllReadyIn.nil
    exact AllReadyIn.nil
   exact AllReadyIn.nil
  refine AllReadyIn.cons rfl (fun K hK => ?_) ?_
  ·go_simp
   refine hK _ _ ?_
   clear hK K
   refine wpAnyIn_ready (rs := [0, 2]) (by kernel_rfl) (by simp) ?_
   refine AllReadyIn.cons rfl (fun K hK => ?_) ?_
   ·go_simp
    refine hK _ _ ?_
    clear hK K
    refine wpAnyIn_ready (rs := [2]) (by kernel_rfl) (by simp) ?_
    refine AllReadyIn.cons rfl (fun K hK => ?_) ?_
    ·go_simp
     gi_wp2_with (refine ⟨trivial, ?_⟩; gi_at_call 14; refine (CallsIn.inRound l' (callsIn_wide.2 (words_Kind.calls 3 xr xw xb kd _ HK.out))).mono ?_; rintro e Xk ⟨rfl, hbk⟩; replace hK4 := blk_below hK4 hbk; replace cK := blk_cell hK4 0)
     have cKa := blk_cell (blk_alloc hK4 (.cells #[.bool (kd == 1)] 4)) 0
     refine wpAnyIn_ready (rs := [3]) (by kernel_rfl) (by simp) ?_
     refine AllReadyIn.cons rfl (fun K hK => ?_) ?_
     ·go_simp
      refine hK _ _ ?_
      clear hK K
      refine wpAnyIn_ready (rs := [4]) (by kernel_rfl) (by simp) ?_
      refine AllReadyIn.cons rfl (fun K hK => ?_) ?_
      ·go_simp
       refine hK _ _ ?_
       clear hK K
       refine wpAnyIn_ready (rs := [5]) (by kernel_rfl) (by simp) ?_
       refine AllReadyIn.cons rfl (fun K hK => ?_) ?_
       ·refine R_append_stepIn Kd.bool (w0 := X) w.heap.size rfl (.tmp 27) (.tmp 31) 147 4 (.bool false) 1 rfl Tryd.underlying147 wr_infoB rfl (by decide) (by decide) (.slice AB bs.length cB) bs (kd == 1) [.bool (kd == 1)] (fun _ => True) (fun _ => False) rfl rfl rfl (fun _ hk => hk.elim) (fun _ _ => trivial) (Kd.R_below HRB.out hbk) (hbk.mono hb4S) (Nat.le_trans hb4S hbk.size) HLB.out ?_
        intro v2 w2 HR3 HB4 hg3
        obtain ⟨A3, c3, rfl⟩ := Kd.R_slice HR3
        rw [List.length_append, List.length_singleton] at HR3
        have hbe := blk_grown hK4 hg3 (R_ne_blk (Kd.R_below HRB.out hbk) hK4 (by decide))
        have cK2 := blk_cell hbe 0
        have fK2 := blk_frozen hbe 0
        have HR4 := Aside0.mk HR3
        have HG4 := Aside0.mk hg3
        have HB5 := Aside0.mk HB4
        have HBE := Aside0.mk hbe
        clear HR3 HB4 hg3 hbe cK cKa
        refine hK _ _ ?_
        clear hK K
        refine wpAnyIn_ready (rs := [6]) (by kernel_rfl) (by simp) ?_
        refine AllReadyIn.cons rfl (fun K hK => ?_) ?_
        ·go_simp
         refine hK _ _ ?_
         clear hK K
         refine wpAnyIn_done (by kernel_rfl) ?_ _
         (gi_wp2; exact wrapPost_of _ hB hbs hb4 ho4 hE4 hbs4 HRE.out HRB.out hbk HG4.out HB5.out HBE.out HR4.out)
        exact AllReadyIn.nil
       exact AllReadyIn.nil
      exact AllReadyIn.nil
     exact AllReadyIn.nil
    exact AllReadyIn.nil
   refine AllReadyIn.cons rfl (fun K hK => ?_) ?_
   ·go_simp
    gi_wp2_with (refine ⟨trivial, ?_⟩; gi_at_call 14; refine (CallsIn.inRound l' (callsIn_wide.2 (words_Kind.calls 3 xr xw xb kd _ HK.out))).mono ?_; rintro e Xk ⟨rfl, hbk⟩; replace hK4 := blk_below hK4 hbk; replace cK := blk_cell hK4 0)
    have cKa := blk_cell (blk_alloc hK4 (.cells #[.bool (kd == 1)] 4)) 0
    refine wpAnyIn_ready (rs := [0, 3]) (by kernel_rfl) (by simp) ?_
    refine AllReadyIn.cons rfl (fun K hK => ?_) ?_
    ·go_simp
     refine hK _ _ ?_
     clear hK K
     refine wpAnyIn_ready (rs := [3]) (by kernel_rfl) (by simp) ?_
     refine AllReadyIn.cons rfl (fun K hK => ?_) ?_
     ·go_simp
      refine hK _ _ ?_
      clear hK K
      refine wpAnyIn_ready (rs := [4]) (by kernel_rfl) (by simp) ?_
      refine AllReadyIn.cons rfl (fun K hK => ?_) ?_
      ·go_simp
       refine hK _ _ ?_
       clear hK K
       refine wpAnyIn_ready (rs := [5]) (by kernel_rfl) (by simp) ?_
       refine AllReadyIn.cons rfl (fun K hK => ?_) ?_
       ·refine R_append_stepIn Kd.bool (w0 := X) w.heap.size rfl (.tmp 27) (.tmp 31) 147 4 (.bool false) 1 rfl Tryd.underlying147 wr_infoB rfl (by decide) (by decide) (.slice AB bs.length cB) bs (kd == 1) [.bool (kd == 1)] (fun _ => True) (fun _ => False) rfl rfl rfl (fun _ hk => hk.elim) (fun _ _ => trivial) (Kd.R_below HRB.out hbk) (hbk.mono hb4S) (Nat.le_trans hb4S hbk.size) HLB.out ?_
        intro v2 w2 HR3 HB4 hg3
        obtain ⟨A3, c3, rfl⟩ := Kd.R_slice HR3
        rw [List.length_append, List.length_singleton] at HR3
        have hbe := blk_grown hK4 hg3 (R_ne_blk (Kd.R_below HRB.out hbk) hK4 (by decide))
        have cK2 := blk_cell hbe 0
        have fK2 := blk_frozen hbe 0
        have HR4 := Aside0.mk HR3
        have HG4 := Aside0.mk hg3
        have HB5 := Aside0.mk HB4
        have HBE := Aside0.mk hbe
        clear HR3 HB4 hg3 hbe cK cKa
        refine hK _ _ ?_
        clear hK K
        refine wpAnyIn_ready (rs := [6]) (by kernel_rfl) (by simp) ?_
        refine AllReadyIn.cons rfl (fun K hK => ?_) ?_
        ·go_simp
         refine hK _ _ ?_
         clear hK K
         refine wpAnyIn_done (by kernel_rfl) ?_ _
         (gi_wp2; exact wrapPost_of _ hB hbs hb4 ho4 hE4 hbs4 HRE.out HRB.out hbk HG4.out HB5.out HBE.out HR4.out)
        exact AllReadyIn.nil
       exact AllReadyIn.nil
      exact AllReadyIn.nil
     exact AllReadyIn.nil
    refine AllReadyIn.cons rfl (fun K hK => ?_) ?_
    ·go_simp
     refine hK _ _ ?_
     clear hK K
     refine wpAnyIn_ready (rs := [0, 4]) (by kernel_rfl) (by simp) ?_
     refine AllReadyIn.cons rfl (fun K hK => ?_) ?_
     ·go_simp
      refine hK _ _ ?_
      clear hK K
      refine wpAnyIn_ready (rs := [4]) (by kernel_rfl) (by simp) ?_
      refine AllReadyIn.cons rfl (fun K hK => ?_) ?_
      ·go_simp
       refine hK _ _ ?_
       clear hK K
       refine wpAnyIn_ready (rs := [5]) (by kernel_rfl) (by simp) ?_
       refine AllReadyIn.cons rfl (fun K hK => ?_) ?_
       ·refine R_append_stepIn Kd.bool (w0 := X) w.heap.size rfl (.tmp 27) (.tmp 31) 147 4 (.bool false) 1 rfl Tryd.underlying147 wr_infoB rfl (by decide) (by decide) (.slice AB bs.length cB) bs (kd == 1) [.bool (kd == 1)] (fun _ => True) (fun _ => False) rfl rfl rfl (fun _ hk => hk.elim) (fun _ _ => trivial) (Kd.R_below HRB.out hbk) (hbk.mono hb4S) (Nat.le_trans hb4S hbk.size) HLB.out ?_
        intro v2 w2 HR3 HB4 hg3
        obtain ⟨A3, c3, rfl⟩ := Kd.R_slice HR3
        rw [List.length_append, List.length_singleton] at HR3
        have hbe := blk_grown hK4 hg3 (R_ne_blk (Kd.R_below HRB.out hbk) hK4 (by decide))
        have cK2 := blk_cell hbe 0
        have fK2 := blk_frozen hbe 0
        have HR4 := Aside0.mk HR3
        have HG4 := Aside0.mk hg3
        have HB5 := Aside0.mk HB4
        have HBE := Aside0.mk hbe
        clear HR3 HB4 hg3 hbe cK cKa
        refine hK _ _ ?_
        clear hK K
        refine wpAnyIn_ready (rs := [6]) (by kernel_rfl) (by simp) ?_
        refine AllReadyIn.cons rfl (fun K hK => ?_) ?_
        ·go_simp
         refine hK _ _ ?_
         clear hK K
         refine wpAnyIn_done (by kernel_rfl) ?_ _
         (gi_wp2; exact wrapPost_of _ hB hbs hb4 ho4 hE4 hbs4 HRE.out HRB.out hbk HG4.out HB5.out HBE.out HR4.out)
        exact AllReadyIn.nil
       exact AllReadyIn.nil
      exact AllReadyIn.nil
     refine AllReadyIn.cons rfl (fun K hK => ?_) ?_
     ·go_simp
      refine hK _ _ ?_
      clear hK K
      refine wpAnyIn_ready (rs := [0]) (by kernel_rfl) (by simp) ?_
      refine AllReadyIn.cons rfl (fun K hK => ?_) ?_
      ·go_simp
       refine hK _ _ ?_
       clear hK K
       refine wpAnyIn_ready (rs := [5]) (by kernel_rfl) (by simp) ?_
       refine AllReadyIn.cons rfl (fun K hK => ?_) ?_
       ·refine R_append_stepIn Kd.bool (w0 := X) w.heap.size rfl (.tmp 27) (.tmp 31) 147 4 (.bool false) 1 rfl Tryd.underlying147 wr_infoB rfl (by decide) (by decide) (.slice AB bs.length cB) bs (kd == 1) [.bool (kd == 1)] (fun _ => True) (fun _ => False) rfl rfl rfl (fun _ hk => hk.elim) (fun _ _ => trivial) (Kd.R_below HRB.out hbk) (hbk.mono hb4S) (Nat.le_trans hb4S hbk.size) HLB.out ?_
        intro v2 w2 HR3 HB4 hg3
        obtain ⟨A3, c3, rfl⟩ := Kd.R_slice HR3
        rw [List.length_append, List.length_singleton] at HR3
        have hbe := blk_grown hK4 hg3 (R_ne_blk (Kd.R_below HRB.out hbk) hK4 (by decide))
        have cK2 := blk_cell hbe 0
        have fK2 := blk_frozen hbe 0
        have HR4 := Aside0.mk HR3
        have HG4 := Aside0.mk hg3
        have HB5 := Aside0.mk HB4
        have HBE := Aside0.mk hbe
        clear HR3 HB4 hg3 hbe cK cKa
        refine hK _ _ ?_
        clear hK K
        refine wpAnyIn_ready (rs := [6]) (by kernel_rfl) (by simp) ?_
        refine AllReadyIn.cons rfl (fun K hK => ?_) ?_
        ·go_simp
         refine hK _ _ ?_
         clear hK K
         refine wpAnyIn_done (by kernel_rfl) ?_ _
         (gi_wp2; exact wrapPost_of _ hB hbs hb4 ho4 hE4 hbs4 HRE.out HRB.out hbk HG4.out HB5.out HBE.out HR4.out)
        exact AllReadyIn.nil
       exact AllReadyIn.nil
      exact AllReadyIn.nil
     exact AllReadyIn.nil
    exact AllReadyIn.nil
   exact AllReadyIn.nil
  exact AllReadyIn.nil
 case done =>
  rintro D zs V hD rfl ⟨⟨hB, hbs⟩, vE, vB, hE, hK', hRE, hRB⟩ hK
  have hlE : (edgesOf (allSteps (strOfNums l0))).length ≤ 4398046511104 := by simp [edgesOf]; omega
  have hlB : (blanksOf (allSteps (strOfNums l0))).length = (edgesOf (allSteps (strOfNums l0))).length := by simp [edgesOf, blanksOf]
  have hl1 : 1 ≤ (edgesOf (allSteps (strOfNums l0))).length := by simp [edgesOf]
  obtain ⟨L, hL0⟩ : ∃ L, wrapsOf l0 a1 a2 = L := ⟨_, rfl⟩
  have HL0 := Aside0.mk hL0
  unfold wrapsOf at hL0
  generalize edgesOf (allSteps (strOfNums l0)) = es at *
  generalize blanksOf (allSteps (strOfNums l0)) = bl at *
  obtain ⟨AE, cE, rfl⟩ := Kd.R_slice hRE
  obtain ⟨AB, cB, rfl⟩ := Kd.R_slice hRB
  have HE := Aside0.mk hE
  have HK' := Aside0.mk hK'
  have HKD := Aside0.mk hK
  have HRE := Aside0.mk (Kd.R_reads' hRE).2.2
  have HRB := Aside0.mk (Kd.R_reads' hRB).2.2
  have HBV := Aside0.mk hB
  have hDV : D < V.heap.size := blk_lt hK
  clear hE hK' hK hRE hRB hB hbs bs2 hB2 hE2 hK2 hRE2 hRB2 hL2 hlim hN hns hc0
  gi_wp2
  gi_loopw [11, 12] (fun v11 v12 wr => ∃ (out : List Int) (s : Int) (k : Nat), v12 = .int .i64 s ∧ Aside0 (wrapGo es bl a1 a2 k s out = L) ∧ Aside0 (0 ≤ s ∧ s + 1 ≤ (es.length : Int) ∧ (es.length : Int) - 1 - s < (k : Int) ∧ (out.length : Int) ≤ s) ∧ Aside0 ((Kd.int .i64).R 3 wr V.heap.size (fun _ => True) v11 out) ∧ Aside0 (Below V.heap.size V wr))
   (fun _ v12 _ => ((es.length : Int) - intVal v12).toNat)
  case atStart => exact ⟨[], 0, es.length, rfl, ⟨hL0⟩, ⟨by simp; omega⟩, ⟨Kd.R_nil _ _ _ _ _⟩, ⟨Below.refl _ V⟩⟩
  case round =>
   obtain ⟨out, s, k, rfl, HA, HI, HO, HB⟩ := hrel
   obtain ⟨i0, i1, i2, i3⟩ := HI.out
   have cE := blk_cell (blk_below HE.out HB.out) 0
   have cB := blk_cell (blk_below HK'.out HB.out) 0
   have H := HA.out
   clear HA HI hL0
   cases k with
   | zero => exfalso; simp at i2; omega
   | succ k =>
    simp only [wrapGo] at H
    have ew1 : wrap64 ((es.length : Int) - 1) = (es.length : Int) - 1 := by unfold wrap64; omega
    have ew2 : wrap64 ((es.length : Int) - 1 - s) = (es.length : Int) - 1 - s := by unfold wrap64; omega
    by_cases hc : a2 < (es.length : Int) - 1 - s
    ·rw [if_pos hc] at H
     have hcb : decide (a2 < (es.length : Int) - 1 - s) = true := decide_eq_true hc
     have ew3 : wrap64 (s + a2) = s + a2 := by unfold wrap64; omega
     gi_wp2
     gi_loopw [13] (fun v13 wq => ∃ (p : Int) (j : Nat), v13 = .int .i64 p ∧ wq = wr ∧ Aside0 (scanB bl s j p = scanB bl s a2.toNat (s + a2)) ∧ Aside0 (s ≤ p ∧ p ≤ s + a2 ∧ p - s ≤ (j : Int))) (fun v13 _ => (intVal v13 - s).toNat)
     case atStart => exact ⟨s + a2, a2.toNat, rfl, rfl, ⟨rfl⟩, ⟨by omega⟩⟩
     case round =>
      obtain ⟨p, j, rfl, rfl, HS, HP⟩ := hrel
      obtain ⟨p0, p1, p2⟩ := HP.out
      have hs := HS.out
      clear HS HP
      by_cases hps : s < p
      ·have hpb : decide (s < p) = true := decide_eq_true hps
       have g0 : 0 ≤ p := by omega
       have g1 : p < (bl.length : Int) := by omega
       obtain ⟨ad, hA, hx⟩ := Kd.at_bool (Kd.C_below HRB.out HB.out) p g0 g1
       cases hA
       have q0 := eq_true g0
       have q1 := eq_true g1
       cases j with
       | zero => exfalso; simp at p2; omega
       | succ j =>
        simp only [scanB] at hs
        by_cases hbl : rdOf false bl p = false
        ·rw [if_pos ⟨hps, hbl⟩] at hs
         rw [hbl] at hx
         have ew4 : wrap64 (p - 1) = p - 1 := by unfold wrap64; omega
         gi_wp2
         go_roundw
         case rel => exact ⟨p - 1, j, by first | rfl | trivial | simp [ew4], by first | rfl | trivial, ⟨hs⟩, ⟨by omega⟩⟩
         case measure => simp only [intVal, ew4]; omega
        ·rw [if_neg (fun h => hbl h.2)] at hs
         rw [show rdOf false bl p = true by simpa using hbl] at hx
         have hpe : (p == s) = false := by simp; omega
         have hcut : cutOf bl a2 s = p := by unfold cutOf; rw [if_neg (by omega)]; exact hs.symm
         rw [hcut] at H
         clear hcut hs
         have z0 : 0 ≤ p := by omega
         have z1 : p < (es.length : Int) := by omega
         obtain ⟨adE, hA2, hxE⟩ := Kd.at_int (Kd.C_below HRE.out HB.out) (p) z0 z1
         cases hA2
         have y0 := eq_true z0
         have y1 := eq_true z1
         have HLO := Aside0.mk (show (out.length + 1) * 8 ≤ 140737488355328 by omega)
         generalize rd es (p) = ev at *
         gi_wp2_with (gi_at_builtin; refine R_appendIn (Kd.int .i64) (w0 := V) V.heap.size rfl (.tmp 61) (.tmp 68) 69 3 (.int .i64 0) 8 rfl Tryd.underlying69 info3 rfl (by decide) (by decide) _ out (wrap64 (a1 + ev)) [.int .i64 (wrap64 (a1 + ev))] (fun _ => True) (fun _ => False) rfl rfl rfl (fun _ hk => hk.elim) (fun _ _ => trivial) HO.out HB.out HB.out.size HLO.out ?_; intro v1 w1 HR1 HB2 hg1 hnn; have HRn := Aside0.mk HR1; have HBn := Aside0.mk HB2; clear HR1 HB2 hg1 hnn)
         go_roundw
         case rel => exact ⟨out ++ [wrap64 (a1 + ev)], p, k, by first | rfl | trivial | simp [*], ⟨H⟩, ⟨by simp; omega⟩, ⟨HRn.out⟩, ⟨HBn.out⟩⟩
         case measure => simp only [intVal]; omega
      ·have hpb : decide (s < p) = false := decide_eq_false hps
       obtain rfl : s = p := by omega
       have hpe : (s == s) = true := by simp
       have hs2 : scanB bl s j s = s := by have := scanB_le bl s j s (Int.le_refl _); omega
       have hcut : cutOf bl a2 s = s + a2 := by unfold cutOf; rw [if_pos (by rw [← hs, hs2])]
       clear hs2
       rw [hcut] at H
       clear hcut hs
       have z0 : 0 ≤ s + a2 := by omega
       have z1 : s + a2 < (es.length : Int) := by omega
       obtain ⟨adE, hA2, hxE⟩ := Kd.at_int (Kd.C_below HRE.out HB.out) (s + a2) z0 z1
       cases hA2
       have y0 := eq_true z0
       have y1 := eq_true z1
       have HLO := Aside0.mk (show (out.length + 1) * 8 ≤ 140737488355328 by omega)
       generalize rd es (s + a2) = ev at *
       gi_wp2_with (gi_at_builtin; refine R_appendIn (Kd.int .i64) (w0 := V) V.heap.size rfl (.tmp 61) (.tmp 68) 69 3 (.int .i64 0) 8 rfl Tryd.underlying69 info3 rfl (by decide) (by decide) _ out (wrap64 (a1 + ev)) [.int .i64 (wrap64 (a1 + ev))] (fun _ => True) (fun _ => False) rfl rfl rfl (fun _ hk => hk.elim) (fun _ _ => trivial) HO.out HB.out HB.out.size HLO.out ?_; intro v1 w1 HR1 HB2 hg1 hnn; have HRn := Aside0.mk HR1; have HBn := Aside0.mk HB2; clear HR1 HB2 hg1 hnn)
       go_roundw
       case rel => exact ⟨out ++ [wrap64 (a1 + ev)], s + a2, k, by first | rfl | trivial | simp [*], ⟨H⟩, ⟨by simp; omega⟩, ⟨HRn.out⟩, ⟨HBn.out⟩⟩
       case measure => simp only [intVal]; omega
    ·rw [if_neg hc] at H
     have hcb : decide (a2 < (es.length : Int) - 1 - s) = false := decide_eq_false hc
     gi_wp2
     refine ⟨by simp, .inl ⟨_, _, rfl, run_takeDeferred (blk_below HKD.out HB.out), ?_⟩⟩
     refine ⟨_, results_tmp rfl _ _ _, _, rfl, ?_, (HBV.out.trans (HB.out.mono HBV.out.size)).trans (belowK_b (w := w) (Nat.le_refl _) wr D _ _ (by omega) (blk_below HKD.out HB.out) rfl rfl)⟩
     rw [HL0.out, ← H]
     exact R_abides (Kd.R_lower HO.out HBV.out.size) (grownBy_putObj' wr D _) (fun r e => by cases e; exact ⟨_, blk_below HKD.out HB.out, rfl⟩)
 case stop =>
  rintro D c pre W _ _ h _
  exact h.elim
theorem words_wrapped.calls (A0 : Option Addr) (c0 : Nat) (l0 : List Int) (a1 a2 : Int) (r : List Int) (w : World) (hr0 : Kd.C (Kd.int .u8) w A0 l0.length l0) (hc0 : l0.length ≤ c0) (hL : LaidBad w) (h : words_wrapped.f l0 a1 a2 = some r) :
  Calls Tryd.prog 66 #[.slice A0 l0.length c0, .int .i64 a1, .int .i64 a2] w fun e w' => ∃ v0_ : Value, e = .returned (v0_) ∧ Kd.R (Kd.int .i64) 3 w' w.heap.size (fun _ => True) v0_ r ∧ Below w.heap.size w w' := by
 unfold words_wrapped.f at h
 by_cases hl : l0.length ≤ 4398046511103 ∧ 1 ≤ a2 ∧ a2 ≤ 65536
 ·rw [if_pos hl] at h
  cases h
  exact callsIn_wide.1 (words_wrapped.walk A0 c0 l0 a1 a2 w hr0 hc0 hL hl.1 hl.2.1 hl.2.2)
 ·rw [if_neg hl] at h
  cases h

end Go.Proofs.YtijbkiajhicooaaDoor.PW

namespace Go.Proofs.YtijbkiajhicooaaDoor.PW
open Go.RowKit Go.Proofs.YtijbkiajhicooaaDoorW.PrintWords Go.Proofs.YtijbkiajhicooaaDoorW.PrintLast Go.Proofs.YtijbkiajhicooaaDoorW.PrintMore
attribute [local go_sem] max2_int min2_int max_two min_two max_three min_three max_four min_four   -- for this text's walks alone
set_option linter.unusedVariables false
set_option linter.unusedSimpArgs false

mutual
def words_Wrap.j0 : Nat → List Int → Int → Bool → Option (List Int × Int)
 | 0, _, _, _ => none
 | k + 1, x0, x1, x17 => if x17 = true then (some (([] : List Int), 2)) else ((lines_Count.f x0).bind fun t171 => (words_Wrap.l0 k x0 x1 ([] : List Int) t171 0))
def words_Wrap.l0 : Nat → List Int → Int → List Int → Int → Int → Option (List Int × Int)
 | 0, _, _, _, _, _ => none
 | k + 1, x0, x1, x6, x19, x20 => if x20 < x19 then ((lines_Line.f x0 x20).bind fun bt172 => (if 0 ≤ bt172.1 then (if bt172.1 ≤ bt172.2.1 then (if bt172.2.1 ≤ (x0.length : Int) then ((words_wrapped.f ((x0.take (bt172.2.1 : Int).toNat).drop (bt172.1 : Int).toNat) bt172.1 x1).bind fun t177 => (if x6.length + t177.length < 17592186044416 then (words_Wrap.l0 k x0 x1 (x6 ++ t177) x19 (wrap64 (x20 + 1))) else (none))) else (none)) else (none)) else (none))) else (some (x6, 0))
end
def words_Wrap.f (k : Nat) (l0 : List Int) (a1 : Int) : Option (List Int × Int) := if a1 < 1 then (words_Wrap.j0 k l0 a1 true) else (words_Wrap.j0 k l0 a1 (decide (a1 > 65536)))
set_option maxHeartbeats 8000000 in
set_option maxRecDepth 100000 in
theorem words_Wrap.calls (k : Nat) (A0 : Option Addr) (c0 : Nat) (l0 : List Int) (a1 : Int) (r1 : List Int) (r2 : Int) (w : World) (hr0 : Kd.C (Kd.int .u8) w A0 l0.length l0) (hc0 : l0.length ≤ c0) (hL : LaidBad w) (h : words_Wrap.f k l0 a1 = some (r1, r2)) :
  Calls Tryd.prog 36 #[.slice A0 l0.length c0, .int .i64 a1] w fun e w' => ∃ v0_ : Value, e = .returned (.tuple #[v0_, .int .i64 r2]) ∧ Kd.R (Kd.int .i64) 3 w' w.heap.size (fun _ => True) v0_ r1 ∧ Below w.heap.size w w' := by
 have HR0 := Aside0.mk hr0
 have HC0 := Aside0.mk hc0
 clear hr0 hc0
 have HB := Aside0.mk (Below.refl w.heap.size w)
 have HLB := Aside0.mk hL
 clear hL
 have H : (if a1 < 1 then (words_Wrap.j0 k l0 a1 true) else (words_Wrap.j0 k l0 a1 (decide (a1 > 65536)))) = some (r1, r2) := h
 clear h
 have HC3 := Aside0.mk H
 clear H
 go_enter Tryd.func36, Tryd.ntmps36
 go_upto_region 1 with (fail)
 go_cut [17] (fun v17 wc => ∃ (kq : Nat) (x17_2 : Bool), v17 = .bool x17_2 ∧ Aside0 (words_Wrap.j0 kq l0 a1 x17_2 = some (r1, r2)) ∧ Aside0 (kq ≤ k) ∧ Aside0 (Below w.heap.size w wc))
 case first =>
  have H := HC3.out
  clear HC3
  by_cases c4 : a1 < 1
  ·rw [if_pos c4] at H
   have c4b0 : decide (a1 < 1) = true := decide_eq_true c4
   clear c4
   (first | rw [c4b0] | (simp only [i64_w, i32_w]; rw [c4b0]) | skip)
   have H' := Aside0.mk H
   clear H
   go_wp2
   go_meet
   case rel => exact ⟨_, (true), (by first | rfl | (simp; done) | (simp [*]; done)), H', ⟨by first | omega | exact Nat.le_refl _⟩, ⟨by repeat (first | (with_reducible first | exact HB.out | apply below_alloc | apply pw_below_drewN | apply below_drew1) | exact HB.out)⟩⟩
  ·rw [if_neg c4] at H
   have c4b0 : decide (a1 < 1) = false := decide_eq_false c4
   clear c4
   (first | rw [c4b0] | (simp only [i64_w, i32_w]; rw [c4b0]) | skip)
   have H' := Aside0.mk H
   clear H
   go_wp2
   go_meet
   case rel => exact ⟨_, (decide (a1 > 65536)), (by first | rfl | (simp; done) | (simp [*]; done)), H', ⟨by first | omega | exact Nat.le_refl _⟩, ⟨by repeat (first | (with_reducible first | exact HB.out | apply below_alloc | apply pw_below_drewN | apply below_drew1) | exact HB.out)⟩⟩
 case rest =>
  clear HC3
  try clear p2
  try clear c3
  try clear c4
  try clear c4b0
  obtain ⟨kq, x17_2, rfl, HA, HJ2, HB⟩ := hcut
  cases kq with
  | zero => exact absurd HA.out (by simp [words_Wrap.j0])
  | succ kj2 =>
   have H := HA.out
   clear HA
   simp only [words_Wrap.j0] at H
   by_cases c5 : x17_2 = true
   ·subst c5
    have H1 : (some (([] : List Int), 2)) = some (r1, r2) := by rw [if_pos rfl] at H; exact H
    clear H
    have H := H1
    clear H1
    simp only [Option.some.injEq, Prod.mk.injEq] at H
    obtain ⟨rfl, rfl⟩ := H
    go_wp2
    go_ret2
    exact ⟨_, by first | rfl | (simp [errW_none, errW_some] <;> rfl) | (simp [*, errW_none, errW_some] <;> rfl), by first | exact Kd.R_nil _ _ _ _ _ | exact Kd.N_nil _ _ _ _ _ | exact Kd.V_nil _ _ _ _ _ | exact Kd.Q_nil _ _ _ _ _ | exact Kd.S_nil _ _ _ _ _, by repeat (first | (with_reducible first | exact HB.out | apply below_alloc | apply pw_below_drewN | apply below_drew1) | exact HB.out)⟩
   ·replace c5 := Bool.eq_false_iff.mpr c5
    subst c5
    have H1 : ((lines_Count.f l0).bind fun t171 => (words_Wrap.l0 kj2 l0 a1 ([] : List Int) t171 0)) = some (r1, r2) := by rw [if_neg (show ¬ (false = true) by decide)] at H; exact H
    clear H
    have H := H1
    clear H1
    replace H := Option.bind_eq_some_iff.mp H
    obtain ⟨t171, A60, H⟩ := H
    replace H : (words_Wrap.l0 kj2 l0 a1 ([] : List Int) t171 0) = some (r1, r2) := H
    have A6 := Aside0.mk A60
    clear A60
    have H' := Aside0.mk H
    clear H
    go_wp2_with (first | ((with_reducible refine gate_callee (f := 52) rfl ?_); refine goesL_ (some 19) rfl rfl Tryd.func52 (by kernel_rfl) rfl #[.slice A0 l0.length c0] rfl (by (try simp only [List.map_toArray, List.map_cons, List.map_nil]); first | done | rfl | (simp only [List.length_drop, List.length_take]; rfl)) ?_; (with_reducible refine (lines_Count.calls _ _ l0 t171 _ ?side1 ?side2 A6.out).mono ?_); (case side1 => repeat (first | exact (Kd.C_below HR0.out HB.out) | (with_reducible refine Kd.C_alloc ?_ _) | (with_reducible refine Kd.C_drewN ?_ _) | (with_reducible refine Kd.C_drew ?_))); (case side2 => exact HC0.out); rintro e w7 ⟨rfl, hb⟩; refine ⟨_, rfl, ?_⟩; have n0_ := Aside0.mk (below_step (by repeat (first | (with_reducible first | exact HB.out | apply below_alloc | apply pw_below_drewN | apply below_drew1) | exact HB.out)) hb); clear HB; have HB := n0_; clear n0_; (try clear hb); (try clear hb2); (try clear hk); (try clear hi)))
    go_loopg [6, 20] kj2 (fun kq v6 v20 w' => ∃ (x6_2 : List Int) (x20_2 : Int), v20 = .int .i64 x20_2 ∧ Aside0 (words_Wrap.l0 kq l0 a1 x6_2 t171 x20_2 = some (r1, r2)) ∧ Aside0 (kq ≤ kj2) ∧ Aside0 (Kd.R (Kd.int .i64) 3 w' w.heap.size (fun _ => True) v6 x6_2) ∧ Aside0 (Below w.heap.size w w'))
    case atStart => exact ⟨(([] : List Int)), (0), (by first | rfl | (simp; done) | (simp [*]; done)), H', ⟨Nat.le_refl _⟩, ⟨by first | exact Kd.R_nil _ _ _ _ _ | exact Kd.N_nil _ _ _ _ _ | exact Kd.V_nil _ _ _ _ _ | exact Kd.Q_nil _ _ _ _ _ | exact Kd.S_nil _ _ _ _ _⟩, ⟨by repeat (first | (with_reducible first | exact HB.out | apply below_alloc | apply pw_below_drewN | apply below_drew1) | exact HB.out)⟩⟩
    case round =>
     clear H'
     try clear p2
     try clear c3
     try clear c4
     try clear c4b0
     try clear c5
     try clear p2
     obtain ⟨x6_2, x20_2, rfl, HA, HK2, HO_6, HB⟩ := hrel
     cases gk with
     | zero => exact absurd HA.out (by simp [words_Wrap.l0])
     | succ k2 =>
      have H := HA.out
      clear HA
      simp only [words_Wrap.l0] at H
      by_cases c8 : x20_2 < t171
      ·rw [if_pos c8] at H
       have c8b0 : decide (x20_2 < t171) = true := decide_eq_true c8
       clear c8
       replace H := Option.bind_eq_some_iff.mp H
       obtain ⟨⟨t172, t173, t174, t175⟩, A90, H⟩ := H
       replace H : (if 0 ≤ t172 then (if t172 ≤ t173 then (if t173 ≤ (l0.length : Int) then ((words_wrapped.f ((l0.take (t173 : Int).toNat).drop (t172 : Int).toNat) t172 a1).bind fun t177 => (if x6_2.length + t177.length < 17592186044416 then (words_Wrap.l0 k2 l0 a1 (x6_2 ++ t177) t171 (wrap64 (x20_2 + 1))) else (none))) else (none)) else (none)) else (none)) = some (r1, r2) := H
       have A9 := Aside0.mk A90
       clear A90
       by_cases c10 : 0 ≤ t172
       ·rw [if_pos c10] at H
        have c10b0 := eq_true c10
        have c10b1 : decide (0 ≤ t172) = true := decide_eq_true c10
        clear c10
        by_cases c11 : t172 ≤ t173
        ·rw [if_pos c11] at H
         have c11b0 := eq_true c11
         have c11b1 : decide (t172 ≤ t173) = true := decide_eq_true c11
         clear c11
         by_cases c12 : t173 ≤ (l0.length : Int)
         ·rw [if_pos c12] at H
          have c12b0 := eq_true c12
          have c12b1 : decide (t173 ≤ (l0.length : Int)) = true := decide_eq_true c12
          clear c12
          replace H := Option.bind_eq_some_iff.mp H
          obtain ⟨t177, A130, H⟩ := H
          replace H : (if x6_2.length + t177.length < 17592186044416 then (words_Wrap.l0 k2 l0 a1 (x6_2 ++ t177) t171 (wrap64 (x20_2 + 1))) else (none)) = some (r1, r2) := H
          have A13 := Aside0.mk A130
          clear A130
          by_cases c14 : x6_2.length + t177.length < 17592186044416
          ·rw [if_pos c14] at H
           have LMc14 := Aside0.mk c14
           clear c14
           obtain ⟨y180, hy180⟩ : ∃ y_ : List Int, y_ = (x6_2 ++ t177) := ⟨_, rfl⟩
           replace H : (words_Wrap.l0 k2 l0 a1 y180 t171 (wrap64 (x20_2 + 1))) = some (r1, r2) := by first | (rw [hy180]; with_reducible exact H) | (have H2_ := (Option.bind_some _ _).symm.trans H; rw [hy180]; with_reducible exact H2_) | (have H2_ := (Option.bind_some _ _).symm.trans H; with_reducible exact H2_) | with_reducible exact H | (rw [hy180]; exact H) | exact H
           have Ny180 := Aside0.mk hy180
           clear hy180
           have H' := Aside0.mk H
           clear H
           go_wp2_with (first | ((with_reducible refine gate_callee (f := 46) rfl ?_); refine goesL_ (some 26) rfl rfl Tryd.func46 (by kernel_rfl) rfl #[.slice A0 l0.length c0, .int .i64 x20_2] rfl (by (try simp only [List.map_toArray, List.map_cons, List.map_nil]); first | done | rfl | (simp only [List.length_drop, List.length_take]; rfl)) ?_; (with_reducible refine (lines_Line.calls _ _ l0 x20_2 t172 t173 t174 t175 _ ?side1 ?side2 A9.out).mono ?_); (case side1 => repeat (first | exact (Kd.C_below HR0.out HB.out) | (with_reducible refine Kd.C_alloc ?_ _) | (with_reducible refine Kd.C_drewN ?_ _) | (with_reducible refine Kd.C_drew ?_))); (case side2 => exact HC0.out); rintro e w15 ⟨rfl, hb⟩; refine ⟨_, rfl, ?_⟩; have n0_ := Aside0.mk (Kd.R_below (by (with_reducible repeat (first | apply Kd.R_alloc | apply Kd.R_drewN | apply Kd.R_drew)); exact HO_6.out) hb); have n1_ := Aside0.mk (below_step (by repeat (first | (with_reducible first | exact HB.out | apply below_alloc | apply pw_below_drewN | apply below_drew1) | exact HB.out)) hb); clear HO_6; clear HB; have HO_6 := n0_; have HB := n1_; clear n0_ n1_; (try clear hb); (try clear hb2); (try clear hk); (try clear hi); obtain ⟨i016, hi016, _, hsz16, _⟩ := info_parts info5; obtain ⟨A16, hcut16, hA16, hC16⟩ := print_mid_of (P := Tryd.prog) (Value.int .u8) 0 29 5 .i64 .i64 Tryd.underlying29 hi016 hsz16 A0 c0 l0 t172 t173 (of_decide_eq_true (by first | (with_reducible assumption) | assumption)) (by first | omega | exact of_decide_eq_true (by first | (with_reducible assumption) | assumption)) (of_decide_eq_true (by first | (with_reducible assumption) | assumption)) HC0.out; have HR176 := Aside0.mk (Kd.C_of_reads (h1 := fun _ => rfl) (hA16 _ (Kd.reads_of_C HR0.out))); have HC176 := Aside0.mk hC16; clear hA16 hC16 hi016 hsz16) | ((with_reducible refine gate_callee (f := 66) rfl ?_); refine goesL_ (some 38) rfl rfl Tryd.func66 (by kernel_rfl) rfl #[.slice A16 ((l0.take (t173 : Int).toNat).drop (t172 : Int).toNat).length (c0 - t172.toNat), .int .i64 t172, .int .i64 a1] rfl (by (try simp only [List.map_toArray, List.map_cons, List.map_nil]); first | done | (rw [show ((l0.take (t173 : Int).toNat).drop (t172 : Int).toNat).length = (t173.toNat - t172.toNat) from (by rw [List.length_drop, List.length_take]; have h_ : (t173 : Int) ≤ (l0.length : Int) := of_decide_eq_true (by first | (with_reducible assumption) | assumption); omega)] <;> rfl) | rfl | (simp only [List.length_drop, List.length_take]; rfl)) ?_; (with_reducible refine (words_wrapped.calls _ _ ((l0.take (t173 : Int).toNat).drop (t172 : Int).toNat) t172 a1 t177 _ ?side1 ?side2 ?side3 A13.out).mono ?_); (case side1 => repeat (first | exact (Kd.C_below HR176.out HB.out) | (with_reducible refine Kd.C_alloc ?_ _) | (with_reducible refine Kd.C_drewN ?_ _) | (with_reducible refine Kd.C_drew ?_))); (case side2 => exact HC176.out); (case side3 => exact laid_below HLB.out (by repeat (first | (with_reducible first | exact HB.out | apply below_alloc | apply pw_below_drewN | apply below_drew1) | exact HB.out))); rintro e w17 ⟨v178, rfl, ho0, hb⟩; refine ⟨_, rfl, ?_⟩; have n0_ := Aside0.mk (Kd.R_elder' (by (with_reducible repeat (first | apply Kd.R_alloc | apply Kd.R_drewN | apply Kd.R_drew)); exact HO_6.out) (Kd.R_base ho0) hb); have n1_ := Aside0.mk (Kd.R_lower (Kd.R_new' ho0 (Kd.R_lt (by (with_reducible repeat (first | apply Kd.R_alloc | apply Kd.R_drewN | apply Kd.R_drew)); exact HO_6.out))) (below_size (by repeat (first | (with_reducible first | exact HB.out | apply below_alloc | apply pw_below_drewN | apply below_drew1) | exact HB.out)))); have n2_ := Aside0.mk (below_step (by repeat (first | (with_reducible first | exact HB.out | apply below_alloc | apply pw_below_drewN | apply below_drew1) | exact HB.out)) hb); clear HO_6; clear HB; have HO_6 := n0_; have HO179 := n1_; have HB := n2_; clear n0_ n1_ n2_; (try clear hb); (try clear hb2); (try clear hk); (try clear hi); (try clear ho0); obtain ⟨Ao19, co19, eo19⟩ := Kd.R_slice HO179.out; subst eo19) | ((with_reducible refine gate_builtin (b := .append) (xs := #[.tmp 31, .tmp 38]) rfl ?_); at_builtin; refine Kd.R_append_rows (Kd.int .i64) (w0 := w) w.heap.size rfl (.tmp 31) (.tmp 38) 69 3 (.int .i64 0) 8 rfl Tryd.underlying69 info3 rfl (by decide) (by omega) u6 x6_2 t177 _ _ _ (fun k_ => some k_ ≠ (.slice Ao19 t177.length co19 : Value).ownBlock) (fun _ => False) rfl rfl ?aO ?aR (fun _ _ h => h) (fun _ h => h.elim) ?aF ?aB ?aS ?aL ?_; (case aR => repeat (first | exact (Kd.R_reads' HO179.out).2.2 | (with_reducible refine Kd.C_alloc ?_ _) | (with_reducible refine Kd.C_drewN ?_ _) | (with_reducible refine Kd.C_drew ?_))); (case aB => exact (by repeat (first | (with_reducible first | exact HB.out | apply below_alloc | apply pw_below_drewN | apply below_drew1) | exact HB.out))); (case aF => exact (fun k_ hk => Kd.fresh' (Kd.R_lt (by (with_reducible repeat (first | apply Kd.R_alloc | apply Kd.R_drewN | apply Kd.R_drew)); exact HO179.out)) k_ hk)); (case aO => exact (by (with_reducible repeat (first | apply Kd.R_alloc | apply Kd.R_drewN | apply Kd.R_drew)); exact Kd.R_mono HO_6.out (fun _ hk => hk.2))); (case aS => exact (below_size (by repeat (first | (with_reducible first | exact HB.out | apply below_alloc | apply pw_below_drewN | apply below_drew1) | exact HB.out)))); (case aL => have := LMc14.out; omega); intro v181 w18 ho hb hg hat; rw [← Ny180.out] at ho; have n0_ := Aside0.mk (Kd.R_after (ok := (fun _ => True)) (by (with_reducible repeat (first | apply Kd.R_alloc | apply Kd.R_drewN | apply Kd.R_drew)); exact HO179.out) hg hat); have n1_ := Aside0.mk (hb); have n2_ := Aside0.mk (ho); clear HO179; clear HB; clear HO_6; have HO179 := n0_; have HB := n1_; have HO182 := n2_; clear n0_ n1_ n2_; clear ho hb hg hat))
           go_roundg k2
           case measure => have := HJ2.out; have := HK2.out; omega
           case rel => exact ⟨(y180), (wrap64 (x20_2 + 1)), (by first | rfl | (simp; done) | (simp [*]; done)), H', ⟨by have := HJ2.out; have := HK2.out; omega⟩, ⟨by (with_reducible repeat (first | apply Kd.R_alloc | apply Kd.R_drewN | apply Kd.R_drew)); exact Kd.R_mono HO182.out (fun _ hk => trivial)⟩, ⟨by repeat (first | (with_reducible first | exact HB.out | apply below_alloc | apply pw_below_drewN | apply below_drew1) | exact HB.out)⟩⟩
          ·rw [if_neg c14] at H
           exact absurd H (by simp)
         ·rw [if_neg c12] at H
          exact absurd H (by simp)
        ·rw [if_neg c11] at H
         exact absurd H (by simp)
       ·rw [if_neg c10] at H
        exact absurd H (by simp)
      ·rw [if_neg c8] at H
       have c8b0 : decide (x20_2 < t171) = false := decide_eq_false c8
       clear c8
       simp only [Option.some.injEq, Prod.mk.injEq] at H
       obtain ⟨rfl, rfl⟩ := H
       go_wp2
       go_ret2
       exact ⟨_, by first | rfl | (simp [errW_none, errW_some] <;> rfl) | (simp [*, errW_none, errW_some] <;> rfl), by (with_reducible repeat (first | apply Kd.R_alloc | apply Kd.R_drewN | apply Kd.R_drew)); exact HO_6.out, by repeat (first | (with_reducible first | exact HB.out | apply below_alloc | apply pw_below_drewN | apply below_drew1) | exact HB.out)⟩

end Go.Proofs.YtijbkiajhicooaaDoor.PW

namespace Go.Proofs.YtijbkiajhicooaaDoor.PW
open Go.RowKit Go.Proofs.YtijbkiajhicooaaDoorW.PrintWords Go.Proofs.YtijbkiajhicooaaDoorW.PrintLast Go.Proofs.YtijbkiajhicooaaDoorW.PrintMore
attribute [local go_sem] max2_int min2_int max_two min_two max_three min_three max_four min_four   -- for this text's walks alone
set_option linter.unusedVariables false
set_option linter.unusedSimpArgs false

theorem eqA36 (d : Nat) (w : World) (x0 y0 : Int) (x1 y1 : Int) :
  (Op.equalIn (d + 2) 36 (.agg #[.int .i64 x0, .int .i64 x1]) (.agg #[.int .i64 y0, .int .i64 y1])).run Tryd.prog w = .ok (x0 == y0 && (x1 == y1)) w := by
 refine eqA_of Tryd.underlying36 (by kernel_rfl) ?_
 refine eqf_cons (by rfl) (by go_simp; rfl) (by go_simp; rfl) (by go_simp) ?_
 exact eqf_last (by rfl) (by go_simp; rfl) (by go_simp; rfl) (by go_simp)
end Go.Proofs.YtijbkiajhicooaaDoor.PW

namespace Go.Proofs.YtijbkiajhicooaaDoor.PW
open Go.RowKit Go.Proofs.YtijbkiajhicooaaDoorW.PrintWords Go.Proofs.YtijbkiajhicooaaDoorW.PrintLast Go.Proofs.YtijbkiajhicooaaDoorW.PrintMore
attribute [local go_sem] max2_int min2_int max_two min_two max_three min_three max_four min_four   -- for this text's walks alone
set_option linter.unusedVariables false
set_option linter.unusedSimpArgs false

attribute [local go_sem high] eqA36
def galleyref22_SameHits.l0 : Nat → List (S36) → List (S36) → Int → Option (Bool)
 | 0, _, _, _ => none
 | k + 1, x0, x1, x5 => if x5 < (x0.length : Int) then (if 0 ≤ x5 then (if x5 < (x1.length : Int) then (if (!(((rd_T36 x0 x5).f0) == ((rd_T36 x1 x5).f0)) || (!(((rd_T36 x0 x5).f1) == ((rd_T36 x1 x5).f1)))) = true then (some false) else (galleyref22_SameHits.l0 k x0 x1 (wrap64 (x5 + 1)))) else (none)) else (none)) else (some true)
def galleyref22_SameHits.f (k : Nat) (l0 : List (S36)) (l1 : List (S36)) : Option (Bool) := if (l0.length : Int) = (l1.length : Int) then (galleyref22_SameHits.l0 k l0 l1 0) else (some false)
set_option maxHeartbeats 8000000 in
set_option maxRecDepth 100000 in
theorem galleyref22_SameHits.calls (k : Nat) (A0 : Option Addr) (c0 : Nat) (l0 : List (S36)) (A1 : Option Addr) (c1 : Nat) (l1 : List (S36)) (r : Bool) (w : World) (hr0 : Kd.C k36 w A0 l0.length l0) (hc0 : l0.length ≤ c0) (hr1 : Kd.C k36 w A1 l1.length l1) (hc1 : l1.length ≤ c1) (h : galleyref22_SameHits.f k l0 l1 = some r) :
  Calls Tryd.prog 16 #[.slice A0 l0.length c0, .slice A1 l1.length c1] w fun e w' => e = .returned (.bool r) ∧ Drawn0 w w' := by
 have hu36 := Tryd.underlying36
 have HR0 := Aside0.mk hr0
 have HC0 := Aside0.mk hc0
 clear hr0 hc0
 have HR1 := Aside0.mk hr1
 have HC1 := Aside0.mk hc1
 clear hr1 hc1
 have H : (if (l0.length : Int) = (l1.length : Int) then (galleyref22_SameHits.l0 k l0 l1 0) else (some false)) = some r := h
 clear h
 by_cases c3 : (l0.length : Int) = (l1.length : Int)
 ·rw [if_pos c3] at H
  have c3b0 : ((l0.length : Int) == (l1.length : Int)) = true := beq_iff_eq.mpr c3
  have c3b1 : ((l0.length : Int) != (l1.length : Int)) = false := bne_eq_false_iff_eq.mpr c3
  have c3b2 : (l0.length == l1.length) = true := by first | simpa using c3 | (simp at c3 ⊢; omega)
  clear c3
  have H' := Aside0.mk H
  clear H
  go_enter Tryd.func16, Tryd.ntmps16
  go_wp2
  repeat (go_quiet (fail); try go_wp2)
  go_loopg [5] k (fun kq v5 w' => ∃ (x5_1 : Int), v5 = .int .i64 x5_1 ∧ Aside0 (galleyref22_SameHits.l0 kq l0 l1 x5_1 = some r) ∧ Aside0 (kq ≤ k) ∧ Drawn0 w w')
  case atStart => exact ⟨(0), (by first | rfl | (simp; done) | (simp [*]; done)), H', ⟨Nat.le_refl _⟩, by repeat (first | exact Drawn0.refl _ | apply Drawn0.step)⟩
  case round =>
   clear H'
   try clear c1
   try clear p2
   try clear c3
   try clear c3b0
   try clear c3b1
   try clear c3b2
   obtain ⟨x5_1, rfl, HA, HK1, ⟨m1, rfl⟩⟩ := hrel
   cases gk with
   | zero => exact absurd HA.out (by simp [galleyref22_SameHits.l0])
   | succ k1 =>
    have H := HA.out
    clear HA
    simp only [galleyref22_SameHits.l0] at H
    by_cases c4 : x5_1 < (l0.length : Int)
    ·rw [if_pos c4] at H
     have c4b0 : decide (x5_1 < (l0.length : Int)) = true := decide_eq_true c4
     clear c4
     by_cases c5 : 0 ≤ x5_1
     ·rw [if_pos c5] at H
      have c5b0 : decide (0 ≤ x5_1) = true := decide_eq_true c5
      clear c5
      by_cases c6 : x5_1 < (l1.length : Int)
      ·rw [if_pos c6] at H
       have c6b0 : decide (x5_1 < (l1.length : Int)) = true := decide_eq_true c6
       clear c6
       by_cases c7 : (!(((rd_T36 l0 x5_1).f0) == ((rd_T36 l1 x5_1).f0)) || (!(((rd_T36 l0 x5_1).f1) == ((rd_T36 l1 x5_1).f1)))) = true
       ·rw [if_pos c7] at H
        have c7b0 : (!(((rd_T36 l0 x5_1).f0) == ((rd_T36 l1 x5_1).f0)) || (!(((rd_T36 l0 x5_1).f1) == ((rd_T36 l1 x5_1).f1)))) = true := c7
        clear c7
        obtain rfl := Option.some.inj H
        have p103 : 0 ≤ (x5_1 : Int) := of_decide_eq_true (by first | (with_reducible assumption) | assumption)
        have q103 : x5_1 < (l0.length : Int) := of_decide_eq_true (by first | (with_reducible assumption) | assumption)
        obtain ⟨ad103, e103, hx103_0, hx103_1⟩ := at_T36 HR0.out x5_1 p103 q103
        cases e103
        replace p103 := eq_true p103
        replace q103 := eq_true q103
        have p104 : 0 ≤ (x5_1 : Int) := of_decide_eq_true (by first | (with_reducible assumption) | assumption)
        have q104 : x5_1 < (l1.length : Int) := of_decide_eq_true (by first | (with_reducible assumption) | assumption)
        obtain ⟨ad104, e104, hx104_0, hx104_1⟩ := at_T36 HR1.out x5_1 p104 q104
        cases e104
        replace p104 := eq_true p104
        replace q104 := eq_true q104
        go_wp2
        repeat (go_quiet (fail); try go_wp2)
        go_ret
        exact ⟨by first | rfl | (simp; done) | (simp [*]; done), by repeat (first | exact Drawn0.refl _ | apply Drawn0.step)⟩
       ·rw [if_neg c7] at H
        have c7b0 : (!(((rd_T36 l0 x5_1).f0) == ((rd_T36 l1 x5_1).f0)) || (!(((rd_T36 l0 x5_1).f1) == ((rd_T36 l1 x5_1).f1)))) = false := by simpa using c7
        clear c7
        have H' := Aside0.mk H
        clear H
        have p103 : 0 ≤ (x5_1 : Int) := of_decide_eq_true (by first | (with_reducible assumption) | assumption)
        have q103 : x5_1 < (l0.length : Int) := of_decide_eq_true (by first | (with_reducible assumption) | assumption)
        obtain ⟨ad103, e103, hx103_0, hx103_1⟩ := at_T36 HR0.out x5_1 p103 q103
        cases e103
        replace p103 := eq_true p103
        replace q103 := eq_true q103
        have p104 : 0 ≤ (x5_1 : Int) := of_decide_eq_true (by first | (with_reducible assumption) | assumption)
        have q104 : x5_1 < (l1.length : Int) := of_decide_eq_true (by first | (with_reducible assumption) | assumption)
        obtain ⟨ad104, e104, hx104_0, hx104_1⟩ := at_T36 HR1.out x5_1 p104 q104
        cases e104
        replace p104 := eq_true p104
        replace q104 := eq_true q104
        go_wp2
        repeat (go_quiet (fail); try go_wp2)
        go_roundg k1
        case measure => have := HK1.out; omega
        case rel => exact ⟨(wrap64 (x5_1 + 1)), (by first | rfl | (simp; done) | (simp [*]; done)), H', ⟨by have := HK1.out; omega⟩, by repeat (first | exact Drawn0.refl _ | apply Drawn0.step)⟩
      ·rw [if_neg c6] at H
       exact absurd H (by simp)
     ·rw [if_neg c5] at H
      exact absurd H (by simp)
    ·rw [if_neg c4] at H
     have c4b0 : decide (x5_1 < (l0.length : Int)) = false := decide_eq_false c4
     clear c4
     obtain rfl := Option.some.inj H
     go_wp2
     repeat (go_quiet (fail); try go_wp2)
     go_ret
     exact ⟨by first | rfl | (simp; done) | (simp [*]; done), by repeat (first | exact Drawn0.refl _ | apply Drawn0.step)⟩
 ·rw [if_neg c3] at H
  have c3b0 : ((l0.length : Int) == (l1.length : Int)) = false := beq_eq_false_iff_ne.mpr c3
  have c3b1 : ((l0.length : Int) != (l1.length : Int)) = true := bne_iff_ne.mpr c3
  have c3b2 : (l0.length == l1.length) = false := by first | simpa using c3 | (simp at c3 ⊢; omega)
  obtain rfl := Option.some.inj H
  go_enter Tryd.func16, Tryd.ntmps16
  go_wp2
  repeat (go_quiet (fail); try go_wp2)
  go_ret
  exact ⟨by first | rfl | (simp; done) | (simp [*]; done), by repeat (first | exact Drawn0.refl _ | apply Drawn0.step)⟩

end Go.Proofs.YtijbkiajhicooaaDoor.PW

namespace Go.Proofs.YtijbkiajhicooaaDoor.PW
open Go.RowKit Go.Proofs.YtijbkiajhicooaaDoorW.PrintWords Go.Proofs.YtijbkiajhicooaaDoorW.PrintLast Go.Proofs.YtijbkiajhicooaaDoorW.PrintMore
attribute [local go_sem] max2_int min2_int max_two min_two max_three min_three max_four min_four   -- for this text's walks alone
set_option linter.unusedVariables false
set_option linter.unusedSimpArgs false

def words_All.l0 : Nat → List (S36) → List (S83) → Int → Int → Option ((List (S36)))
 | 0, _, _, _, _ => none
 | k + 1, x3, x7, x8, x9 => if x9 < x8 then (if 0 ≤ x9 then (if x9 < (x7.length : Int) then (if ((rd_T83 x7 x9).f1) = 3 then (if x3.length < 8796093022208 then (words_All.l0 k (x3 ++ [(⟨(rd_T83 x7 x9).f0.f0, (rd_T83 x7 x9).f0.f1⟩ : S36)]) x7 x8 (wrap64 (x9 + 1))) else (none)) else (words_All.l0 k x3 x7 x8 (wrap64 (x9 + 1)))) else (none)) else (none)) else (some x3)
def words_All.f (k : Nat) (l0 : List Int) : Option ((List (S36))) := (words_runs.f l0).bind fun t105 => (words_All.l0 k ([] : List (S36)) t105 (t105.length : Int) 0)
set_option maxHeartbeats 8000000 in
set_option maxRecDepth 100000 in
theorem words_All.calls (k : Nat) (A0 : Option Addr) (c0 : Nat) (l0 : List Int) (r : List (S36)) (w : World) (hr0 : Kd.C (Kd.int .u8) w A0 l0.length l0) (hc0 : l0.length ≤ c0) (hL : LaidBad w) (h : words_All.f k l0 = some r) :
  Calls Tryd.prog 17 #[.slice A0 l0.length c0] w fun e w' => ∃ v0_ : Value, e = .returned (v0_) ∧ Kd.R k36 36 w' w.heap.size (fun _ => True) v0_ r ∧ Below w.heap.size w w' := by
 have hu83 := Tryd.underlying83
 have hu36 := Tryd.underlying36
 have HR0 := Aside0.mk hr0
 have HC0 := Aside0.mk hc0
 clear hr0 hc0
 have HB := Aside0.mk (Below.refl w.heap.size w)
 have HLB := Aside0.mk hL
 clear hL
 have H : ((words_runs.f l0).bind fun t105 => (words_All.l0 k ([] : List (S36)) t105 (t105.length : Int) 0)) = some r := h
 clear h
 replace H := Option.bind_eq_some_iff.mp H
 obtain ⟨t105, A20, H⟩ := H
 replace H : (words_All.l0 k ([] : List (S36)) t105 (t105.length : Int) 0) = some r := H
 have A2 := Aside0.mk A20
 clear A20
 have H' := Aside0.mk H
 clear H
 go_enter Tryd.func17, Tryd.ntmps17
 go_wp2_with (first | ((with_reducible refine gate_callee (f := 42) rfl ?_); refine goesL_ (some 7) rfl rfl Tryd.func42 (by kernel_rfl) rfl #[.slice A0 l0.length c0] rfl (by (try simp only [List.map_toArray, List.map_cons, List.map_nil]); first | done | rfl | (simp only [List.length_drop, List.length_take]; rfl)) ?_; (with_reducible refine (words_runs.calls _ _ l0 t105 _ ?side1 ?side2 ?side3 A2.out).mono ?_); (case side1 => repeat (first | exact HR0.out | (with_reducible refine Kd.C_alloc ?_ _) | (with_reducible refine Kd.C_drewN ?_ _) | (with_reducible refine Kd.C_drew ?_))); (case side2 => exact HC0.out); (case side3 => exact laid_below HLB.out (by repeat (first | (with_reducible first | exact HB.out | apply below_alloc | apply pw_below_drewN | apply below_drew1) | exact HB.out))); rintro e w3 ⟨v106, rfl, ho0, hb⟩; refine ⟨_, rfl, ?_⟩; have n0_ := Aside0.mk (Kd.R_lower ho0 (below_size (by repeat (first | (with_reducible first | exact HB.out | apply below_alloc | apply pw_below_drewN | apply below_drew1) | exact HB.out)))); have n1_ := Aside0.mk (below_step (by repeat (first | (with_reducible first | exact HB.out | apply below_alloc | apply pw_below_drewN | apply below_drew1) | exact HB.out)) hb); clear HB; have HO107 := n0_; have HB := n1_; clear n0_ n1_; (try clear hb); (try clear hb2); (try clear hk); (try clear hi); (try clear ho0); obtain ⟨Ao4, co4, eo4⟩ := Kd.R_slice HO107.out; subst eo4))
 go_loopg [3, 9] k (fun kq v3 v9 w' => ∃ (x3_1 : List (S36)) (x9_1 : Int), v9 = .int .i64 x9_1 ∧ Aside0 (words_All.l0 kq x3_1 t105 (t105.length : Int) x9_1 = some r) ∧ Aside0 (kq ≤ k) ∧ Aside0 (Kd.R k36 36 w' w.heap.size (fun _ => True) v3 x3_1) ∧ Aside0 (Kd.R k83 83 w' w.heap.size (fun _ => True) (.slice Ao4 t105.length co4) t105) ∧ Aside0 (Below w.heap.size w w'))
 case atStart => exact ⟨(([] : List (S36))), (0), (by first | rfl | (simp; done) | (simp [*]; done)), H', ⟨Nat.le_refl _⟩, ⟨by first | exact Kd.R_nil _ _ _ _ _ | exact Kd.N_nil _ _ _ _ _ | exact Kd.V_nil _ _ _ _ _ | exact Kd.Q_nil _ _ _ _ _ | exact Kd.S_nil _ _ _ _ _⟩, ⟨by (with_reducible repeat (first | apply Kd.R_alloc | apply Kd.R_drewN | apply Kd.R_drew)); exact HO107.out⟩, ⟨by repeat (first | (with_reducible first | exact HB.out | apply below_alloc | apply pw_below_drewN | apply below_drew1) | exact HB.out)⟩⟩
 case round =>
  clear H'
  try clear c1
  try clear p2
  try clear c4
  obtain ⟨x3_1, x9_1, rfl, HA, HK1, HO_3, HO_7, HB⟩ := hrel
  cases gk with
  | zero => exact absurd HA.out (by simp [words_All.l0])
  | succ k1 =>
   have H := HA.out
   clear HA
   simp only [words_All.l0] at H
   by_cases c5 : x9_1 < (t105.length : Int)
   ·rw [if_pos c5] at H
    have c5b0 : decide (x9_1 < (t105.length : Int)) = true := decide_eq_true c5
    clear c5
    by_cases c6 : 0 ≤ x9_1
    ·rw [if_pos c6] at H
     have c6b0 : decide (0 ≤ x9_1) = true := decide_eq_true c6
     clear c6
     by_cases c7 : x9_1 < (t105.length : Int)
     ·rw [if_pos c7] at H
      have c7b0 : decide (x9_1 < (t105.length : Int)) = true := decide_eq_true c7
      clear c7
      by_cases c8 : ((rd_T83 t105 x9_1).f1) = 3
      ·rw [if_pos c8] at H
       have c8b0 : (((rd_T83 t105 x9_1).f1) == 3) = true := beq_iff_eq.mpr c8
       have c8b1 : (((rd_T83 t105 x9_1).f1) != 3) = false := bne_eq_false_iff_eq.mpr c8
       clear c8
       by_cases c9 : x3_1.length < 8796093022208
       ·rw [if_pos c9] at H
        have LMc9 := Aside0.mk c9
        clear c9
        obtain ⟨y110, hy110⟩ : ∃ y_ : List (S36), y_ = (x3_1 ++ [(⟨(rd_T83 t105 x9_1).f0.f0, (rd_T83 t105 x9_1).f0.f1⟩ : S36)]) := ⟨_, rfl⟩
        replace H : (words_All.l0 k1 y110 t105 (t105.length : Int) (wrap64 (x9_1 + 1))) = some r := by first | (rw [hy110]; with_reducible exact H) | (have H2_ := (Option.bind_some _ _).symm.trans H; rw [hy110]; with_reducible exact H2_) | (have H2_ := (Option.bind_some _ _).symm.trans H; with_reducible exact H2_) | with_reducible exact H | (rw [hy110]; exact H) | exact H
        have Ny110 := Aside0.mk hy110
        clear hy110
        have H' := Aside0.mk H
        clear H
        have p108 : 0 ≤ (x9_1 : Int) := of_decide_eq_true (by first | (with_reducible assumption) | assumption)
        have q108 : x9_1 < (t105.length : Int) := of_decide_eq_true (by first | (with_reducible assumption) | assumption)
        obtain ⟨ad108, e108, hx108_0, hx108_1, hx108_2⟩ := at_T83 (Kd.R_reads' HO_7.out).2.2 x9_1 p108 q108
        cases e108
        replace p108 := eq_true p108
        replace q108 := eq_true q108
        go_wp2_with (first | ((with_reducible refine gate_dst (N := 5) rfl ?_); refine box_event ?hg (N := 5) ?hd (cs := #[.int .i64 0, .int .i64 0, .int .i64 0]) (t := 83) ?hr ?_; (case hd => rfl); (case hg => rfl); (case hr => first | (go_simp; done) | (go_simp; rfl)); intro gb109 hg w10 hbox hb; have n0_ := Aside0.mk (Kd.R_below (by (with_reducible repeat (first | apply Kd.R_alloc | apply Kd.R_drewN | apply Kd.R_drew)); exact HO_3.out) hb); have n1_ := Aside0.mk (Kd.R_below (Kd.R_elderB (by (with_reducible repeat (first | apply Kd.R_alloc | apply Kd.R_drewN | apply Kd.R_drew)); exact HO_7.out) gb109 (Nat.le_of_eq hg.symm)) hb); have n2_ := Aside0.mk (below_step (by repeat (first | (with_reducible first | exact HB.out | apply below_alloc | apply pw_below_drewN | apply below_drew1) | exact HB.out)) hb); have n3_ := Aside0.mk (hbox); have n4_ := Aside0.mk ((by rw [hg]; exact (below_size (by repeat (first | (with_reducible first | exact HB.out | apply below_alloc | apply pw_below_drewN | apply below_drew1) | exact HB.out))) : w.heap.size ≤ gb109)); have n5_ := Aside0.mk ((by rw [hg]; exact (below_size (by repeat (first | (with_reducible first | exact HB.out | apply below_alloc | apply pw_below_drewN | apply below_drew1) | exact HB.out))) : w.heap.size ≤ gb109)); clear HO_3; clear HO_7; clear HB; have HO_3 := n0_; have HO_7 := n1_; have HB := n2_; have BK109 := n3_; have GW109 := n4_; have GE109 := n5_; clear n0_ n1_ n2_ n3_ n4_ n5_; clear hb hbox hg; have hcz11_0 : w10.cell? ⟨gb109, 0, none⟩ = some (.int .i64 0) := (blk_cell BK109.out 0).trans rfl; have hcz11_1 : w10.cell? ⟨gb109, 1, none⟩ = some (.int .i64 0) := (blk_cell BK109.out 1).trans rfl; have hcz11_2 : w10.cell? ⟨gb109, 2, none⟩ = some (.int .i64 0) := (blk_cell BK109.out 2).trans rfl; have hfz11_0 := blk_frozen BK109.out 0; have hfz11_1 := blk_frozen BK109.out 1; have hfz11_2 := blk_frozen BK109.out 2) | ((with_reducible refine gate_builtin (b := .append) (xs := #[.tmp 16, .tmp 19]) rfl ?_); at_builtin; refine Kd.R_append k36 (w0 := w) w.heap.size rfl (.tmp 16) (.tmp 19) 31 36 (.agg #[(.int .i64 0), (.int .i64 0)]) 16 rfl Tryd.underlying31 info36 rfl (by decide) (by omega) u3 x3_1 (⟨(rd_T83 t105 x9_1).f0.f0, (rd_T83 t105 x9_1).f0.f1⟩ : S36) [.int .i64 ((rd_T83 t105 x9_1).f0.f0), .int .i64 ((rd_T83 t105 x9_1).f0.f1)] (fun _ => True) (fun _ => False) rfl (by first | (go_simp; done) | (go_simp; rfl)) ?aP (fun _ hk => hk.elim) ?aF ?aO ?aB ?aS ?aL ?_; (case aP => exact k36_mkM _ _ _ (⟨(rd_T83 t105 x9_1).f0.f0, (rd_T83 t105 x9_1).f0.f1⟩ : S36)); (case aB => exact (by repeat (first | (with_reducible first | exact HB.out | apply below_alloc | apply pw_below_drewN | apply below_drew1 | refine below_set ?_ GE109.out) | exact HB.out))); (case aF => exact (fun _ _ => trivial)); (case aO => exact (by (with_reducible repeat (first | apply Kd.R_alloc | apply Kd.R_drewN | apply Kd.R_drew)); exact Kd.R_mono (Kd.R_far (p := ⟨gb109, 2, none⟩) (Kd.R_far (p := ⟨gb109, 1, none⟩) (Kd.R_far (p := ⟨gb109, 0, none⟩) (Kd.R_types HO_3.out BK109.out (by decide)) (fun _ hk => hk.2) (.int .i64 ((rd_T83 t105 x9_1).f0.f0))) (fun _ hk => hk.2) (.int .i64 ((rd_T83 t105 x9_1).f0.f1))) (fun _ hk => hk.2) (.int .i64 ((rd_T83 t105 x9_1).f1))) (fun _ hk => trivial))); (case aS => exact (below_size (by repeat (first | (with_reducible first | exact HB.out | apply below_alloc | apply pw_below_drewN | apply below_drew1 | refine below_set ?_ GE109.out) | exact HB.out)))); (case aL => have := LMc9.out; omega); intro v111 w12 ho hb hg hat; rw [← Ny110.out] at ho; have n0_ := Aside0.mk (Kd.R_over' (by (with_reducible repeat (first | apply Kd.R_alloc | apply Kd.R_drewN | apply Kd.R_drew)); exact (Kd.R_mono (Kd.R_far (p := ⟨gb109, 2, none⟩) (Kd.R_far (p := ⟨gb109, 1, none⟩) (Kd.R_far (p := ⟨gb109, 0, none⟩) (Kd.R_mono HO_7.out (fun k_ hk => (⟨hk, hk.2⟩ : _ ∧ k_ ≠ gb109))) (fun _ hk => hk.2) (.int .i64 ((rd_T83 t105 x9_1).f0.f0))) (fun _ hk => hk.2) (.int .i64 ((rd_T83 t105 x9_1).f0.f1))) (fun _ hk => hk.2) (.int .i64 ((rd_T83 t105 x9_1).f1))) (fun _ h_ => h_.1))) (Kd.R_typed (by (with_reducible repeat (first | apply Kd.R_alloc | apply Kd.R_drewN | apply Kd.R_drew)); exact (Kd.R_mono (Kd.R_far (p := ⟨gb109, 2, none⟩) (Kd.R_far (p := ⟨gb109, 1, none⟩) (Kd.R_far (p := ⟨gb109, 0, none⟩) (Kd.R_types HO_3.out BK109.out (by decide)) (fun _ hk => hk.2) (.int .i64 ((rd_T83 t105 x9_1).f0.f0))) (fun _ hk => hk.2) (.int .i64 ((rd_T83 t105 x9_1).f0.f1))) (fun _ hk => hk.2) (.int .i64 ((rd_T83 t105 x9_1).f1))) (fun _ h_ => h_.1)))) (by decide) hg); have n1_ := Aside0.mk (blk_grown (g := gb109) (o := .cells #[.int .i64 ((rd_T83 t105 x9_1).f0.f0), .int .i64 ((rd_T83 t105 x9_1).f0.f1), .int .i64 ((rd_T83 t105 x9_1).f1)] 83 (0, 0)) (by (with_reducible repeat (first | refine blk_drewN ?_ _ | refine blk_drew ?_ | refine blk_alloc ?_ _)); refine blk_put (cs := #[.int .i64 ((rd_T83 t105 x9_1).f0.f0), .int .i64 ((rd_T83 t105 x9_1).f0.f1), .int .i64 0]) ?_ 2 _ rfl; (with_reducible repeat (first | refine blk_drewN ?_ _ | refine blk_drew ?_ | refine blk_alloc ?_ _)); refine blk_put (cs := #[.int .i64 ((rd_T83 t105 x9_1).f0.f0), .int .i64 0, .int .i64 0]) ?_ 1 _ rfl; (with_reducible repeat (first | refine blk_drewN ?_ _ | refine blk_drew ?_ | refine blk_alloc ?_ _)); refine blk_put (cs := #[.int .i64 0, .int .i64 0, .int .i64 0]) ?_ 0 _ rfl; (with_reducible repeat (first | refine blk_drewN ?_ _ | refine blk_drew ?_ | refine blk_alloc ?_ _)); exact BK109.out) hg (Kd.R_ne HO_3.out BK109.out (by decide))); have n2_ := Aside0.mk (hb); have n3_ := Aside0.mk (ho); clear HO_7; clear BK109; clear HB; clear HO_3; have HO_7 := n0_; have BK109 := n1_; have HB := n2_; have HO112 := n3_; clear n0_ n1_ n2_ n3_; clear ho hb hg hat))
        go_roundg k1
        case measure => have := HK1.out; omega
        case rel => exact ⟨(y110), (wrap64 (x9_1 + 1)), (by first | rfl | (simp; done) | (simp [*]; done)), H', ⟨by have := HK1.out; omega⟩, ⟨by (with_reducible repeat (first | apply Kd.R_alloc | apply Kd.R_drewN | apply Kd.R_drew)); exact HO112.out⟩, ⟨by (with_reducible repeat (first | apply Kd.R_alloc | apply Kd.R_drewN | apply Kd.R_drew)); exact Kd.R_mono HO_7.out (fun _ hk => trivial)⟩, ⟨by repeat (first | (with_reducible first | exact HB.out | apply below_alloc | apply pw_below_drewN | apply below_drew1 | refine below_set ?_ GE109.out) | exact HB.out)⟩⟩
       ·rw [if_neg c9] at H
        exact absurd H (by simp)
      ·rw [if_neg c8] at H
       have c8b0 : (((rd_T83 t105 x9_1).f1) == 3) = false := beq_eq_false_iff_ne.mpr c8
       have c8b1 : (((rd_T83 t105 x9_1).f1) != 3) = true := bne_iff_ne.mpr c8
       have H' := Aside0.mk H
       clear H
       have p108 : 0 ≤ (x9_1 : Int) := of_decide_eq_true (by first | (with_reducible assumption) | assumption)
       have q108 : x9_1 < (t105.length : Int) := of_decide_eq_true (by first | (with_reducible assumption) | assumption)
       obtain ⟨ad108, e108, hx108_0, hx108_1, hx108_2⟩ := at_T83 (Kd.R_reads' HO_7.out).2.2 x9_1 p108 q108
       cases e108
       replace p108 := eq_true p108
       replace q108 := eq_true q108
       go_wp2_with (first | ((with_reducible refine gate_dst (N := 5) rfl ?_); refine box_event ?hg (N := 5) ?hd (cs := #[.int .i64 0, .int .i64 0, .int .i64 0]) (t := 83) ?hr ?_; (case hd => rfl); (case hg => rfl); (case hr => first | (go_simp; done) | (go_simp; rfl)); intro gb109 hg w13 hbox hb; have n0_ := Aside0.mk (Kd.R_below (by (with_reducible repeat (first | apply Kd.R_alloc | apply Kd.R_drewN | apply Kd.R_drew)); exact HO_3.out) hb); have n1_ := Aside0.mk (Kd.R_below (Kd.R_elderB (by (with_reducible repeat (first | apply Kd.R_alloc | apply Kd.R_drewN | apply Kd.R_drew)); exact HO_7.out) gb109 (Nat.le_of_eq hg.symm)) hb); have n2_ := Aside0.mk (below_step (by repeat (first | (with_reducible first | exact HB.out | apply below_alloc | apply pw_below_drewN | apply below_drew1) | exact HB.out)) hb); have n3_ := Aside0.mk (hbox); have n4_ := Aside0.mk ((by rw [hg]; exact (below_size (by repeat (first | (with_reducible first | exact HB.out | apply below_alloc | apply pw_below_drewN | apply below_drew1) | exact HB.out))) : w.heap.size ≤ gb109)); have n5_ := Aside0.mk ((by rw [hg]; exact (below_size (by repeat (first | (with_reducible first | exact HB.out | apply below_alloc | apply pw_below_drewN | apply below_drew1) | exact HB.out))) : w.heap.size ≤ gb109)); clear HO_3; clear HO_7; clear HB; have HO_3 := n0_; have HO_7 := n1_; have HB := n2_; have BK109 := n3_; have GW109 := n4_; have GE109 := n5_; clear n0_ n1_ n2_ n3_ n4_ n5_; clear hb hbox hg; have hcz14_0 : w13.cell? ⟨gb109, 0, none⟩ = some (.int .i64 0) := (blk_cell BK109.out 0).trans rfl; have hcz14_1 : w13.cell? ⟨gb109, 1, none⟩ = some (.int .i64 0) := (blk_cell BK109.out 1).trans rfl; have hcz14_2 : w13.cell? ⟨gb109, 2, none⟩ = some (.int .i64 0) := (blk_cell BK109.out 2).trans rfl; have hfz14_0 := blk_frozen BK109.out 0; have hfz14_1 := blk_frozen BK109.out 1; have hfz14_2 := blk_frozen BK109.out 2))
       go_roundg k1
       case measure => have := HK1.out; omega
       case rel => exact ⟨(x3_1), (wrap64 (x9_1 + 1)), (by first | rfl | (simp; done) | (simp [*]; done)), H', ⟨by have := HK1.out; omega⟩, ⟨by (with_reducible repeat (first | apply Kd.R_alloc | apply Kd.R_drewN | apply Kd.R_drew)); exact Kd.R_mono (Kd.R_far (p := ⟨gb109, 2, none⟩) (Kd.R_far (p := ⟨gb109, 1, none⟩) (Kd.R_far (p := ⟨gb109, 0, none⟩) (Kd.R_types HO_3.out BK109.out (by decide)) (fun _ hk => hk.2) (.int .i64 ((rd_T83 t105 x9_1).f0.f0))) (fun _ hk => hk.2) (.int .i64 ((rd_T83 t105 x9_1).f0.f1))) (fun _ hk => hk.2) (.int .i64 ((rd_T83 t105 x9_1).f1))) (fun _ hk => trivial)⟩, ⟨by (with_reducible repeat (first | apply Kd.R_alloc | apply Kd.R_drewN | apply Kd.R_drew)); exact Kd.R_mono (Kd.R_far (p := ⟨gb109, 2, none⟩) (Kd.R_far (p := ⟨gb109, 1, none⟩) (Kd.R_far (p := ⟨gb109, 0, none⟩) (Kd.R_mono HO_7.out (fun k_ hk => (⟨hk, hk.2⟩ : _ ∧ k_ ≠ gb109))) (fun _ hk => hk.2) (.int .i64 ((rd_T83 t105 x9_1).f0.f0))) (fun _ hk => hk.2) (.int .i64 ((rd_T83 t105 x9_1).f0.f1))) (fun _ hk => hk.2) (.int .i64 ((rd_T83 t105 x9_1).f1))) (fun _ hk => trivial)⟩, ⟨by repeat (first | (with_reducible first | exact HB.out | apply below_alloc | apply pw_below_drewN | apply below_drew1 | refine below_set ?_ GE109.out) | exact HB.out)⟩⟩
     ·rw [if_neg c7] at H
      exact absurd H (by simp)
    ·rw [if_neg c6] at H
     exact absurd H (by simp)
   ·rw [if_neg c5] at H
    have c5b0 : decide (x9_1 < (t105.length : Int)) = false := decide_eq_false c5
    clear c5
    obtain rfl := Option.some.inj H
    go_wp2
    go_ret
    exact ⟨_, by first | rfl | (simp [errW_none, errW_some] <;> rfl) | (simp [*, errW_none, errW_some] <;> rfl), by (with_reducible repeat (first | apply Kd.R_alloc | apply Kd.R_drewN | apply Kd.R_drew)); exact HO_3.out, by repeat (first | (with_reducible first | exact HB.out | apply below_alloc | apply pw_below_drewN | apply below_drew1) | exact HB.out)⟩

end Go.Proofs.YtijbkiajhicooaaDoor.PW

namespace Go.Proofs.YtijbkiajhicooaaDoor.PW
open Go.RowKit Go.Proofs.YtijbkiajhicooaaDoorW.PrintWords Go.Proofs.YtijbkiajhicooaaDoorW.PrintLast Go.Proofs.YtijbkiajhicooaaDoorW.PrintMore
attribute [local go_sem] max2_int min2_int max_two min_two max_three min_three max_four min_four   -- for this text's walks alone
set_option linter.unusedVariables false
set_option linter.unusedSimpArgs false

def words_outside.f (l0 : List Int) (a1 : Int) : Option (Bool) := if a1 < 0 then (some true) else (some (decide (a1 > (l0.length : Int))))
set_option maxHeartbeats 8000000 in
set_option maxRecDepth 100000 in
theorem words_outside.calls (A0 : Option Addr) (c0 : Nat) (l0 : List Int) (a1 : Int) (r : Bool) (w : World) (hr0 : Kd.C (Kd.int .u8) w A0 l0.length l0) (hc0 : l0.length ≤ c0) (h : words_outside.f l0 a1 = some r) :
  Calls Tryd.prog 44 #[.slice A0 l0.length c0, .int .i64 a1] w fun e w' => e = .returned (.bool r) ∧ Drawn0 w w' := by
 have HR0 := Aside0.mk hr0
 have HC0 := Aside0.mk hc0
 clear hr0 hc0
 have H : (if a1 < 0 then (some true) else (some (decide (a1 > (l0.length : Int))))) = some r := h
 clear h
 by_cases c3 : a1 < 0
 ·rw [if_pos c3] at H
  have c3b0 : decide (a1 < 0) = true := decide_eq_true c3
  clear c3
  obtain rfl := Option.some.inj H
  go_enter Tryd.func44, Tryd.ntmps44
  go_wp2
  go_ret
  exact ⟨by first | rfl | (simp; done) | (simp [*]; done), by repeat (first | exact Drawn0.refl _ | apply Drawn0.step)⟩
 ·rw [if_neg c3] at H
  have c3b0 : decide (a1 < 0) = false := decide_eq_false c3
  clear c3
  obtain rfl := Option.some.inj H
  go_enter Tryd.func44, Tryd.ntmps44
  go_wp2
  go_ret
  exact ⟨by first | rfl | (simp; done) | (simp [*]; done), by repeat (first | exact Drawn0.refl _ | apply Drawn0.step)⟩

end Go.Proofs.YtijbkiajhicooaaDoor.PW

namespace Go.Proofs.YtijbkiajhicooaaDoor.PW
open Go.RowKit Go.Proofs.YtijbkiajhicooaaDoorW.PrintWords Go.Proofs.YtijbkiajhicooaaDoorW.PrintLast Go.Proofs.YtijbkiajhicooaaDoorW.PrintMore
attribute [local go_sem] max2_int min2_int max_two min_two max_three min_three max_four min_four   -- for this text's walks alone
set_option linter.unusedVariables false
set_option linter.unusedSimpArgs false

def words_Around.l0 : Nat → Int → List (S83) → Int → Int → Int → Int → Int → Option (Int × Int × Int × Int)
 | 0, _, _, _, _, _, _, _ => none
 | k + 1, x1, x15, x16, x17, x116000, x116001, x116002 => if x17 < x16 then (if 0 ≤ x17 then (if x17 < (x15.length : Int) then (if x1 < ((rd_T83 x15 x17).f0.f1) then (some ((rd_T83 x15 x17).f0.f0, (rd_T83 x15 x17).f0.f1, (rd_T83 x15 x17).f1, 0)) else (words_Around.l0 k x1 x15 x16 (wrap64 (x17 + 1)) ((rd_T83 x15 x17).f0.f0) ((rd_T83 x15 x17).f0.f1) ((rd_T83 x15 x17).f1))) else (none)) else (none)) else (some (x116000, x116001, x116002, 0))
def words_Around.f (k : Nat) (l0 : List Int) (a1 : Int) : Option (Int × Int × Int × Int) := (words_outside.f l0 a1).bind fun t114 => (if t114 = true then (some (0, 0, 0, 2)) else ((words_runs.f l0).bind fun t116 => (words_Around.l0 k a1 t116 (t116.length : Int) 0 0 0 0)))
set_option maxHeartbeats 8000000 in
set_option maxRecDepth 100000 in
theorem words_Around.calls (k : Nat) (A0 : Option Addr) (c0 : Nat) (l0 : List Int) (a1 : Int) (r1 : Int) (r2 : Int) (r3 : Int) (r4 : Int) (w : World) (hr0 : Kd.C (Kd.int .u8) w A0 l0.length l0) (hc0 : l0.length ≤ c0) (hL : LaidBad w) (h : words_Around.f k l0 a1 = some (r1, r2, r3, r4)) :
  Calls Tryd.prog 20 #[.slice A0 l0.length c0, .int .i64 a1] w fun e w' => e = .returned (.tuple #[.agg #[.int .i64 r1, .int .i64 r2], .int .i64 r3, .int .i64 r4]) ∧ Below w.heap.size w w' := by
 have hu36 := Tryd.underlying36
 have hu83 := Tryd.underlying83
 have HR0 := Aside0.mk hr0
 have HC0 := Aside0.mk hc0
 clear hr0 hc0
 have HB := Aside0.mk (Below.refl w.heap.size w)
 have HLB := Aside0.mk hL
 clear hL
 have H : ((words_outside.f l0 a1).bind fun t114 => (if t114 = true then (some (0, 0, 0, 2)) else ((words_runs.f l0).bind fun t116 => (words_Around.l0 k a1 t116 (t116.length : Int) 0 0 0 0)))) = some (r1, r2, r3, r4) := h
 clear h
 replace H := Option.bind_eq_some_iff.mp H
 obtain ⟨t114, A30, H⟩ := H
 replace H : (if t114 = true then (some (0, 0, 0, 2)) else ((words_runs.f l0).bind fun t116 => (words_Around.l0 k a1 t116 (t116.length : Int) 0 0 0 0))) = some (r1, r2, r3, r4) := H
 have A3 := Aside0.mk A30
 clear A30
 by_cases c4 : t114 = true
 ·subst c4
  have H1 : (some (0, 0, 0, 2)) = some (r1, r2, r3, r4) := by rw [if_pos rfl] at H; exact H
  clear H
  have H := H1
  clear H1
  simp only [Option.some.injEq, Prod.mk.injEq] at H
  obtain ⟨rfl, rfl, rfl, rfl⟩ := H
  go_enter Tryd.func20, Tryd.ntmps20
  go_wp2_with (first | ((with_reducible refine gate_dst (N := 4) rfl ?_); refine box_event ?hg (N := 4) ?hd (cs := #[.int .i64 0, .int .i64 0]) (t := 36) ?hr ?_; (case hd => rfl); (case hg => rfl); (case hr => first | (go_simp; done) | (go_simp; rfl)); intro gb113 hg w5 hbox hb; have n0_ := Aside0.mk (below_step (by repeat (first | (with_reducible first | exact HB.out | apply below_alloc | apply pw_below_drewN | apply below_drew1) | exact HB.out)) hb); have n1_ := Aside0.mk (hbox); have n2_ := Aside0.mk ((by rw [hg]; exact (below_size (by repeat (first | (with_reducible first | exact HB.out | apply below_alloc | apply pw_below_drewN | apply below_drew1) | exact HB.out))) : w.heap.size ≤ gb113)); have n3_ := Aside0.mk ((by rw [hg]; exact (below_size (by repeat (first | (with_reducible first | exact HB.out | apply below_alloc | apply pw_below_drewN | apply below_drew1) | exact HB.out))) : w.heap.size ≤ gb113)); clear HB; have HB := n0_; have BK113 := n1_; have GW113 := n2_; have GE113 := n3_; clear n0_ n1_ n2_ n3_; clear hb hbox hg) | ((with_reducible refine gate_callee (f := 44) rfl ?_); refine goesL_ (some 12) rfl rfl Tryd.func44 (by kernel_rfl) rfl #[.slice A0 l0.length c0, .int .i64 a1] rfl (by (try simp only [List.map_toArray, List.map_cons, List.map_nil]); first | done | rfl | (simp only [List.length_drop, List.length_take]; rfl)) ?_; (with_reducible refine (words_outside.calls _ _ l0 a1 true _ ?side1 ?side2 A3.out).mono ?_); (case side1 => repeat (first | exact (Kd.C_below HR0.out HB.out) | (with_reducible refine Kd.C_alloc ?_ _) | (with_reducible refine Kd.C_drewN ?_ _) | (with_reducible refine Kd.C_drew ?_))); (case side2 => exact HC0.out); rintro e w' ⟨rfl, ⟨nd, rfl⟩⟩; refine ⟨_, rfl, ?_⟩; (try (rw [drewN_self w5]; generalize hq_ : World.drewN w5 _ = w5; have n0_ : Aside0 (w5.heap[gb113]? = some (.cells #[.int .i64 0, .int .i64 0] 36 (0, 0))) := ⟨by rw [← hq_]; exact (by (with_reducible repeat (first | refine blk_drewN ?_ _ | refine blk_drew ?_ | refine blk_alloc ?_ _)); exact BK113.out)⟩; have n1_ : Aside0 (Below w.heap.size w w5) := ⟨by rw [← hq_]; exact (by repeat (first | (with_reducible first | exact HB.out | apply below_alloc | apply pw_below_drewN | apply below_drew1 | refine below_set ?_ GE113.out) | exact HB.out))⟩; clear BK113 HB hq_; have BK113 := n0_; have HB := n1_; clear n0_ n1_)); have hcz6_0 : w5.cell? ⟨gb113, 0, none⟩ = some (.int .i64 0) := (blk_cell BK113.out 0).trans rfl; have hcz6_1 : w5.cell? ⟨gb113, 1, none⟩ = some (.int .i64 0) := (blk_cell BK113.out 1).trans rfl; have hfz6_0 := blk_frozen BK113.out 0; have hfz6_1 := blk_frozen BK113.out 1))
  refine bodyPost_ret (results_ctt rfl _ _ gb113 36 #[.int .i64 0, .int .i64 0] (0, 0) _ rfl (by (with_reducible repeat (first | refine blk_drewN ?_ _ | refine blk_drew ?_ | refine blk_alloc ?_ _)); refine blk_put (cs := #[.int .i64 0, .int .i64 0]) ?_ 1 _ rfl; (with_reducible repeat (first | refine blk_drewN ?_ _ | refine blk_drew ?_ | refine blk_alloc ?_ _)); refine blk_put (cs := #[.int .i64 0, .int .i64 0]) ?_ 0 _ rfl; (with_reducible repeat (first | refine blk_drewN ?_ _ | refine blk_drew ?_ | refine blk_alloc ?_ _)); exact BK113.out) Tryd.underlying36 rfl (by kernel_rfl)) rfl ?_
  exact ⟨by first | rfl | (simp [errW_none, errW_some] <;> rfl) | (simp [*, errW_none, errW_some] <;> rfl), by repeat (first | (with_reducible first | exact HB.out | apply below_alloc | apply pw_below_drewN | apply below_drew1 | refine below_set ?_ GE113.out) | exact HB.out)⟩
 ·replace c4 := Bool.eq_false_iff.mpr c4
  subst c4
  have H1 : ((words_runs.f l0).bind fun t116 => (words_Around.l0 k a1 t116 (t116.length : Int) 0 0 0 0)) = some (r1, r2, r3, r4) := by rw [if_neg (show ¬ (false = true) by decide)] at H; exact H
  clear H
  have H := H1
  clear H1
  replace H := Option.bind_eq_some_iff.mp H
  obtain ⟨t116, A70, H⟩ := H
  replace H : (words_Around.l0 k a1 t116 (t116.length : Int) 0 0 0 0) = some (r1, r2, r3, r4) := H
  have A7 := Aside0.mk A70
  clear A70
  have H' := Aside0.mk H
  clear H
  go_enter Tryd.func20, Tryd.ntmps20
  go_wp2_with (first | ((with_reducible refine gate_dst (N := 4) rfl ?_); refine box_event ?hg (N := 4) ?hd (cs := #[.int .i64 0, .int .i64 0]) (t := 36) ?hr ?_; (case hd => rfl); (case hg => rfl); (case hr => first | (go_simp; done) | (go_simp; rfl)); intro gb113 hg w8 hbox hb; have n0_ := Aside0.mk (below_step (by repeat (first | (with_reducible first | exact HB.out | apply below_alloc | apply pw_below_drewN | apply below_drew1) | exact HB.out)) hb); have n1_ := Aside0.mk (hbox); have n2_ := Aside0.mk ((by rw [hg]; exact (below_size (by repeat (first | (with_reducible first | exact HB.out | apply below_alloc | apply pw_below_drewN | apply below_drew1) | exact HB.out))) : w.heap.size ≤ gb113)); have n3_ := Aside0.mk ((by rw [hg]; exact (below_size (by repeat (first | (with_reducible first | exact HB.out | apply below_alloc | apply pw_below_drewN | apply below_drew1) | exact HB.out))) : w.heap.size ≤ gb113)); clear HB; have HB := n0_; have BK113 := n1_; have GW113 := n2_; have GE113 := n3_; clear n0_ n1_ n2_ n3_; clear hb hbox hg) | ((with_reducible refine gate_callee (f := 44) rfl ?_); refine goesL_ (some 12) rfl rfl Tryd.func44 (by kernel_rfl) rfl #[.slice A0 l0.length c0, .int .i64 a1] rfl (by (try simp only [List.map_toArray, List.map_cons, List.map_nil]); first | done | rfl | (simp only [List.length_drop, List.length_take]; rfl)) ?_; (with_reducible refine (words_outside.calls _ _ l0 a1 false _ ?side1 ?side2 A3.out).mono ?_); (case side1 => repeat (first | exact (Kd.C_below HR0.out HB.out) | (with_reducible refine Kd.C_alloc ?_ _) | (with_reducible refine Kd.C_drewN ?_ _) | (with_reducible refine Kd.C_drew ?_))); (case side2 => exact HC0.out); rintro e w' ⟨rfl, ⟨nd, rfl⟩⟩; refine ⟨_, rfl, ?_⟩) | ((with_reducible refine gate_dst (N := 7) rfl ?_); refine box_event ?hg (N := 7) ?hd (cs := #[.int .i64 0, .int .i64 0, .int .i64 0]) (t := 83) ?hr ?_; (case hd => rfl); (case hg => rfl); (case hr => first | (go_simp; done) | (go_simp; rfl)); intro gb115 hg w9 hbox hb; have n0_ := Aside0.mk (blk_below (g := gb113) (o := .cells #[.int .i64 0, .int .i64 0] 36 (0, 0)) (by (with_reducible repeat (first | refine blk_drewN ?_ _ | refine blk_drew ?_ | refine blk_alloc ?_ _)); exact BK113.out) hb); have n1_ := Aside0.mk (below_step (by repeat (first | (with_reducible first | exact HB.out | apply below_alloc | apply pw_below_drewN | apply below_drew1 | refine below_set ?_ GE113.out) | exact HB.out)) hb); have n2_ := Aside0.mk (hbox); have n3_ := Aside0.mk ((by rw [hg]; exact (below_size (by repeat (first | (with_reducible first | exact HB.out | apply below_alloc | apply pw_below_drewN | apply below_drew1 | refine below_set ?_ GE113.out) | exact HB.out))) : w.heap.size ≤ gb115)); have n4_ := Aside0.mk ((by rw [hg]; exact (below_size (by repeat (first | (with_reducible first | exact HB.out | apply below_alloc | apply pw_below_drewN | apply below_drew1 | refine below_set ?_ GE113.out) | exact HB.out))) : w.heap.size ≤ gb115)); have n5_ := Aside0.mk ((by rw [hg]; exact Nat.ne_of_lt (blk_lt (g := gb113) (o := .cells #[.int .i64 0, .int .i64 0] 36 (0, 0)) (by (with_reducible repeat (first | refine blk_drewN ?_ _ | refine blk_drew ?_ | refine blk_alloc ?_ _)); exact BK113.out)) : gb113 ≠ gb115)); have n6_ := Aside0.mk ((by rw [hg]; exact Nat.ne_of_gt (blk_lt (g := gb113) (o := .cells #[.int .i64 0, .int .i64 0] 36 (0, 0)) (by (with_reducible repeat (first | refine blk_drewN ?_ _ | refine blk_drew ?_ | refine blk_alloc ?_ _)); exact BK113.out)) : gb115 ≠ gb113)); clear BK113; clear HB; have BK113 := n0_; have HB := n1_; have BK115 := n2_; have GW115 := n3_; have GE115 := n4_; have NB113_115 := n5_; have NB115_113 := n6_; clear n0_ n1_ n2_ n3_ n4_ n5_ n6_; clear hb hbox hg) | ((with_reducible refine gate_callee (f := 42) rfl ?_); refine goesL_ (some 15) rfl rfl Tryd.func42 (by kernel_rfl) rfl #[.slice A0 l0.length c0] rfl (by (try simp only [List.map_toArray, List.map_cons, List.map_nil]); first | done | rfl | (simp only [List.length_drop, List.length_take]; rfl)) ?_; (with_reducible refine (words_runs.calls _ _ l0 t116 _ ?side1 ?side2 ?side3 A7.out).mono ?_); (case side1 => repeat (first | exact (Kd.C_below HR0.out HB.out) | (with_reducible refine Kd.C_alloc ?_ _) | (with_reducible refine Kd.C_drewN ?_ _) | (with_reducible refine Kd.C_drew ?_))); (case side2 => exact HC0.out); (case side3 => exact laid_below HLB.out (by repeat (first | (with_reducible first | exact HB.out | apply below_alloc | apply pw_below_drewN | apply below_drew1 | refine below_set ?_ GE113.out | refine below_set ?_ GE115.out) | exact HB.out))); rintro e w10 ⟨v117, rfl, ho0, hb⟩; refine ⟨_, rfl, ?_⟩; have n0_ := Aside0.mk (Kd.R_lower (Kd.R_newB ho0 (g := gb115) (o := .cells #[.int .i64 0, .int .i64 0, .int .i64 0] 83 (0, 0)) (by (with_reducible repeat (first | refine blk_drewN ?_ _ | refine blk_drew ?_ | refine blk_alloc ?_ _)); exact BK115.out)) (below_size (by repeat (first | (with_reducible first | exact HB.out | apply below_alloc | apply pw_below_drewN | apply below_drew1 | refine below_set ?_ GE113.out | refine below_set ?_ GE115.out) | exact HB.out)))); have n1_ := Aside0.mk (blk_below (g := gb113) (o := .cells #[.int .i64 0, .int .i64 0] 36 (0, 0)) (by (with_reducible repeat (first | refine blk_drewN ?_ _ | refine blk_drew ?_ | refine blk_alloc ?_ _)); exact BK113.out) hb); have n2_ := Aside0.mk (blk_below (g := gb115) (o := .cells #[.int .i64 0, .int .i64 0, .int .i64 0] 83 (0, 0)) (by (with_reducible repeat (first | refine blk_drewN ?_ _ | refine blk_drew ?_ | refine blk_alloc ?_ _)); exact BK115.out) hb); have n3_ := Aside0.mk (below_step (by repeat (first | (with_reducible first | exact HB.out | apply below_alloc | apply pw_below_drewN | apply below_drew1 | refine below_set ?_ GE113.out | refine below_set ?_ GE115.out) | exact HB.out)) hb); clear BK113; clear BK115; clear HB; have HO118 := n0_; have BK113 := n1_; have BK115 := n2_; have HB := n3_; clear n0_ n1_ n2_ n3_; (try clear hb); (try clear hb2); (try clear hk); (try clear hi); (try clear ho0); obtain ⟨Ao11, co11, eo11⟩ := Kd.R_slice HO118.out; subst eo11))
  go_loopg [17] k (fun kq v17 w' => ∃ (x17_1 : Int) (x116000_1 : Int) (x116001_1 : Int) (x116002_1 : Int), v17 = .int .i64 x17_1 ∧ Aside0 (words_Around.l0 kq a1 t116 (t116.length : Int) x17_1 x116000_1 x116001_1 x116002_1 = some (r1, r2, r3, r4)) ∧ Aside0 (kq ≤ k) ∧ Aside0 (Kd.R k83 83 w' w.heap.size (fun k_ => k_ ≠ gb115) (.slice Ao11 t116.length co11) t116) ∧ Aside0 (w'.heap[gb113]? = some (.cells #[.int .i64 0, .int .i64 0] 36 (0, 0))) ∧ Aside0 (w'.heap[gb115]? = some (.cells #[.int .i64 x116000_1, .int .i64 x116001_1, .int .i64 x116002_1] 83 (0, 0))) ∧ Aside0 (Below w.heap.size w w'))
  case atStart => exact ⟨(0), (0), (0), (0), (by first | rfl | (simp; done) | (simp [*]; done)), H', ⟨Nat.le_refl _⟩, ⟨by (with_reducible repeat (first | apply Kd.R_alloc | apply Kd.R_drewN | apply Kd.R_drew)); exact Kd.R_mono HO118.out (fun _ hk => hk.2)⟩, ⟨by (with_reducible repeat (first | refine blk_drewN ?_ _ | refine blk_drew ?_ | refine blk_alloc ?_ _)); exact BK113.out⟩, ⟨by (with_reducible repeat (first | refine blk_drewN ?_ _ | refine blk_drew ?_ | refine blk_alloc ?_ _)); exact BK115.out⟩, ⟨by repeat (first | (with_reducible first | exact HB.out | apply below_alloc | apply pw_below_drewN | apply below_drew1 | refine below_set ?_ GE113.out | refine below_set ?_ GE115.out) | exact HB.out)⟩⟩
  case round =>
   clear H'
   try clear c2
   try clear p2
   try clear c4
   try clear hcz6_0
   try clear hcz6_1
   try clear hfz6_0
   try clear hfz6_1
   obtain ⟨x17_1, x116000_1, x116001_1, x116002_1, rfl, HA, HK1, HO_15, BK113, BK115, HB⟩ := hrel
   cases gk with
   | zero => exact absurd HA.out (by simp [words_Around.l0])
   | succ k1 =>
    have H := HA.out
    clear HA
    simp only [words_Around.l0] at H
    by_cases c12 : x17_1 < (t116.length : Int)
    ·rw [if_pos c12] at H
     have c12b0 : decide (x17_1 < (t116.length : Int)) = true := decide_eq_true c12
     clear c12
     by_cases c13 : 0 ≤ x17_1
     ·rw [if_pos c13] at H
      have c13b0 : decide (0 ≤ x17_1) = true := decide_eq_true c13
      clear c13
      by_cases c14 : x17_1 < (t116.length : Int)
      ·rw [if_pos c14] at H
       have c14b0 : decide (x17_1 < (t116.length : Int)) = true := decide_eq_true c14
       clear c14
       by_cases c15 : a1 < ((rd_T83 t116 x17_1).f0.f1)
       ·rw [if_pos c15] at H
        have c15b0 : decide (a1 < ((rd_T83 t116 x17_1).f0.f1)) = true := decide_eq_true c15
        clear c15
        simp only [Option.some.injEq, Prod.mk.injEq] at H
        obtain ⟨rfl, rfl, rfl, rfl⟩ := H
        have p119 : 0 ≤ (x17_1 : Int) := of_decide_eq_true (by first | (with_reducible assumption) | assumption)
        have q119 : x17_1 < (t116.length : Int) := of_decide_eq_true (by first | (with_reducible assumption) | assumption)
        obtain ⟨ad119, e119, hx119_0, hx119_1, hx119_2⟩ := at_T83 (Kd.R_reads' HO_15.out).2.2 x17_1 p119 q119
        cases e119
        replace p119 := eq_true p119
        replace q119 := eq_true q119
        try go_wp2_with (first | ((with_reducible refine gate_dst (N := 9) rfl ?_); refine box_event ?hg (N := 9) ?hd (cs := #[.int .i64 0, .int .i64 0, .int .i64 0]) (t := 83) ?hr ?_; (case hd => rfl); (case hg => rfl); (case hr => first | (go_simp; done) | (go_simp; rfl)); intro gb120 hg w16 hbox hb; have n0_ := Aside0.mk (Kd.R_below (Kd.R_elderB (by (with_reducible repeat (first | apply Kd.R_alloc | apply Kd.R_drewN | apply Kd.R_drew)); exact HO_15.out) gb120 (Nat.le_of_eq hg.symm)) hb); have n1_ := Aside0.mk (blk_below (g := gb113) (o := .cells #[.int .i64 0, .int .i64 0] 36 (0, 0)) (by (with_reducible repeat (first | refine blk_drewN ?_ _ | refine blk_drew ?_ | refine blk_alloc ?_ _)); exact BK113.out) hb); have n2_ := Aside0.mk (blk_below (g := gb115) (o := .cells #[.int .i64 x116000_1, .int .i64 x116001_1, .int .i64 x116002_1] 83 (0, 0)) (by (with_reducible repeat (first | refine blk_drewN ?_ _ | refine blk_drew ?_ | refine blk_alloc ?_ _)); exact BK115.out) hb); have n3_ := Aside0.mk (below_step (by repeat (first | (with_reducible first | exact HB.out | apply below_alloc | apply pw_below_drewN | apply below_drew1 | refine below_set ?_ GE113.out | refine below_set ?_ GE115.out) | exact HB.out)) hb); have n4_ := Aside0.mk (hbox); have n5_ := Aside0.mk ((by rw [hg]; exact (below_size (by repeat (first | (with_reducible first | exact HB.out | apply below_alloc | apply pw_below_drewN | apply below_drew1 | refine below_set ?_ GE113.out | refine below_set ?_ GE115.out) | exact HB.out))) : w.heap.size ≤ gb120)); have n6_ := Aside0.mk ((by rw [hg]; exact (below_size (by repeat (first | (with_reducible first | exact HB.out | apply below_alloc | apply pw_below_drewN | apply below_drew1 | refine below_set ?_ GE113.out | refine below_set ?_ GE115.out) | exact HB.out))) : w.heap.size ≤ gb120)); have n7_ := Aside0.mk ((by rw [hg]; exact Nat.ne_of_lt (blk_lt (g := gb113) (o := .cells #[.int .i64 0, .int .i64 0] 36 (0, 0)) (by (with_reducible repeat (first | refine blk_drewN ?_ _ | refine blk_drew ?_ | refine blk_alloc ?_ _)); exact BK113.out)) : gb113 ≠ gb120)); have n8_ := Aside0.mk ((by rw [hg]; exact Nat.ne_of_gt (blk_lt (g := gb113) (o := .cells #[.int .i64 0, .int .i64 0] 36 (0, 0)) (by (with_reducible repeat (first | refine blk_drewN ?_ _ | refine blk_drew ?_ | refine blk_alloc ?_ _)); exact BK113.out)) : gb120 ≠ gb113)); have n9_ := Aside0.mk ((by rw [hg]; exact Nat.ne_of_lt (blk_lt (g := gb115) (o := .cells #[.int .i64 x116000_1, .int .i64 x116001_1, .int .i64 x116002_1] 83 (0, 0)) (by (with_reducible repeat (first | refine blk_drewN ?_ _ | refine blk_drew ?_ | refine blk_alloc ?_ _)); exact BK115.out)) : gb115 ≠ gb120)); have n10_ := Aside0.mk ((by rw [hg]; exact Nat.ne_of_gt (blk_lt (g := gb115) (o := .cells #[.int .i64 x116000_1, .int .i64 x116001_1, .int .i64 x116002_1] 83 (0, 0)) (by (with_reducible repeat (first | refine blk_drewN ?_ _ | refine blk_drew ?_ | refine blk_alloc ?_ _)); exact BK115.out)) : gb120 ≠ gb115)); clear HO_15; clear BK113; clear BK115; clear HB; have HO_15 := n0_; have BK113 := n1_; have BK115 := n2_; have HB := n3_; have BK120 := n4_; have GW120 := n5_; have GE120 := n6_; have NB113_120 := n7_; have NB120_113 := n8_; have NB115_120 := n9_; have NB120_115 := n10_; clear n0_ n1_ n2_ n3_ n4_ n5_ n6_ n7_ n8_ n9_ n10_; clear hb hbox hg; have hnb17 := NB120_113.out; have hnc17 := NB113_120.out; have hnb18 := NB120_115.out; have hnc18 := NB115_120.out; have hcz19_0 : w16.cell? ⟨gb120, 0, none⟩ = some (.int .i64 0) := (blk_cell BK120.out 0).trans rfl; have hcz19_1 : w16.cell? ⟨gb120, 1, none⟩ = some (.int .i64 0) := (blk_cell BK120.out 1).trans rfl; have hcz19_2 : w16.cell? ⟨gb120, 2, none⟩ = some (.int .i64 0) := (blk_cell BK120.out 2).trans rfl; have hfz19_0 := blk_frozen BK120.out 0; have hfz19_1 := blk_frozen BK120.out 1; have hfz19_2 := blk_frozen BK120.out 2; have hnb20 := NB115_113.out; have hnc20 := NB113_115.out; have hcz21_0 : w16.cell? ⟨gb115, 0, none⟩ = some (.int .i64 x116000_1) := (blk_cell BK115.out 0).trans rfl; have hcz21_1 : w16.cell? ⟨gb115, 1, none⟩ = some (.int .i64 x116001_1) := (blk_cell BK115.out 1).trans rfl; have hcz21_2 : w16.cell? ⟨gb115, 2, none⟩ = some (.int .i64 x116002_1) := (blk_cell BK115.out 2).trans rfl; have hfz21_0 := blk_frozen BK115.out 0; have hfz21_1 := blk_frozen BK115.out 1; have hfz21_2 := blk_frozen BK115.out 2))
        have n0_ : Aside0 (Kd.R k83 83 ((((((w16.setCell ⟨gb120, 0, none⟩ (.int .i64 ((rd_T83 t116 x17_1).f0.f0))).setCell ⟨gb120, 1, none⟩ (.int .i64 ((rd_T83 t116 x17_1).f0.f1))).setCell ⟨gb120, 2, none⟩ (.int .i64 ((rd_T83 t116 x17_1).f1))).setCell ⟨gb115, 0, none⟩ (.int .i64 ((rd_T83 t116 x17_1).f0.f0))).setCell ⟨gb115, 1, none⟩ (.int .i64 ((rd_T83 t116 x17_1).f0.f1))).setCell ⟨gb115, 2, none⟩ (.int .i64 ((rd_T83 t116 x17_1).f1))) w.heap.size (fun k_ => k_ ≠ gb115 ∧ k_ ≠ gb120) (.slice (some ad119) t116.length co11) t116) := ⟨by (with_reducible repeat (first | apply Kd.R_alloc | apply Kd.R_drewN | apply Kd.R_drew)); exact Kd.R_mono (Kd.R_far (p := ⟨gb115, 2, none⟩) (Kd.R_far (p := ⟨gb115, 1, none⟩) (Kd.R_far (p := ⟨gb115, 0, none⟩) (Kd.R_far (p := ⟨gb120, 2, none⟩) (Kd.R_far (p := ⟨gb120, 1, none⟩) (Kd.R_far (p := ⟨gb120, 0, none⟩) (Kd.R_mono (Kd.R_mono HO_15.out (fun k_ hk => (⟨hk, hk.2⟩ : _ ∧ k_ ≠ gb120))) (fun k_ hk => (⟨hk, hk.1.1⟩ : _ ∧ k_ ≠ gb115))) (fun _ hk => hk.1.2) (.int .i64 ((rd_T83 t116 x17_1).f0.f0))) (fun _ hk => hk.1.2) (.int .i64 ((rd_T83 t116 x17_1).f0.f1))) (fun _ hk => hk.1.2) (.int .i64 ((rd_T83 t116 x17_1).f1))) (fun _ hk => hk.2) (.int .i64 ((rd_T83 t116 x17_1).f0.f0))) (fun _ hk => hk.2) (.int .i64 ((rd_T83 t116 x17_1).f0.f1))) (fun _ hk => hk.2) (.int .i64 ((rd_T83 t116 x17_1).f1))) (fun _ hk => ⟨hk.1.1.1, hk.1.1.2⟩)⟩
        have n1_ : Aside0 (((((((w16.setCell ⟨gb120, 0, none⟩ (.int .i64 ((rd_T83 t116 x17_1).f0.f0))).setCell ⟨gb120, 1, none⟩ (.int .i64 ((rd_T83 t116 x17_1).f0.f1))).setCell ⟨gb120, 2, none⟩ (.int .i64 ((rd_T83 t116 x17_1).f1))).setCell ⟨gb115, 0, none⟩ (.int .i64 ((rd_T83 t116 x17_1).f0.f0))).setCell ⟨gb115, 1, none⟩ (.int .i64 ((rd_T83 t116 x17_1).f0.f1))).setCell ⟨gb115, 2, none⟩ (.int .i64 ((rd_T83 t116 x17_1).f1))).heap[gb113]? = some (.cells #[.int .i64 0, .int .i64 0] 36 (0, 0))) := ⟨by (with_reducible repeat (first | refine blk_drewN ?_ _ | refine blk_drew ?_ | refine blk_alloc ?_ _)); refine blk_far ?_ NB113_115.out _; (with_reducible repeat (first | refine blk_drewN ?_ _ | refine blk_drew ?_ | refine blk_alloc ?_ _)); refine blk_far ?_ NB113_115.out _; (with_reducible repeat (first | refine blk_drewN ?_ _ | refine blk_drew ?_ | refine blk_alloc ?_ _)); refine blk_far ?_ NB113_115.out _; (with_reducible repeat (first | refine blk_drewN ?_ _ | refine blk_drew ?_ | refine blk_alloc ?_ _)); refine blk_far ?_ NB113_120.out _; (with_reducible repeat (first | refine blk_drewN ?_ _ | refine blk_drew ?_ | refine blk_alloc ?_ _)); refine blk_far ?_ NB113_120.out _; (with_reducible repeat (first | refine blk_drewN ?_ _ | refine blk_drew ?_ | refine blk_alloc ?_ _)); refine blk_far ?_ NB113_120.out _; (with_reducible repeat (first | refine blk_drewN ?_ _ | refine blk_drew ?_ | refine blk_alloc ?_ _)); exact BK113.out⟩
        have n2_ : Aside0 (((((((w16.setCell ⟨gb120, 0, none⟩ (.int .i64 ((rd_T83 t116 x17_1).f0.f0))).setCell ⟨gb120, 1, none⟩ (.int .i64 ((rd_T83 t116 x17_1).f0.f1))).setCell ⟨gb120, 2, none⟩ (.int .i64 ((rd_T83 t116 x17_1).f1))).setCell ⟨gb115, 0, none⟩ (.int .i64 ((rd_T83 t116 x17_1).f0.f0))).setCell ⟨gb115, 1, none⟩ (.int .i64 ((rd_T83 t116 x17_1).f0.f1))).setCell ⟨gb115, 2, none⟩ (.int .i64 ((rd_T83 t116 x17_1).f1))).heap[gb115]? = some (.cells #[.int .i64 ((rd_T83 t116 x17_1).f0.f0), .int .i64 ((rd_T83 t116 x17_1).f0.f1), .int .i64 ((rd_T83 t116 x17_1).f1)] 83 (0, 0))) := ⟨by (with_reducible repeat (first | refine blk_drewN ?_ _ | refine blk_drew ?_ | refine blk_alloc ?_ _)); refine blk_put (cs := #[.int .i64 ((rd_T83 t116 x17_1).f0.f0), .int .i64 ((rd_T83 t116 x17_1).f0.f1), .int .i64 x116002_1]) ?_ 2 _ rfl; (with_reducible repeat (first | refine blk_drewN ?_ _ | refine blk_drew ?_ | refine blk_alloc ?_ _)); refine blk_put (cs := #[.int .i64 ((rd_T83 t116 x17_1).f0.f0), .int .i64 x116001_1, .int .i64 x116002_1]) ?_ 1 _ rfl; (with_reducible repeat (first | refine blk_drewN ?_ _ | refine blk_drew ?_ | refine blk_alloc ?_ _)); refine blk_put (cs := #[.int .i64 x116000_1, .int .i64 x116001_1, .int .i64 x116002_1]) ?_ 0 _ rfl; (with_reducible repeat (first | refine blk_drewN ?_ _ | refine blk_drew ?_ | refine blk_alloc ?_ _)); refine blk_far ?_ NB115_120.out _; (with_reducible repeat (first | refine blk_drewN ?_ _ | refine blk_drew ?_ | refine blk_alloc ?_ _)); refine blk_far ?_ NB115_120.out _; (with_reducible repeat (first | refine blk_drewN ?_ _ | refine blk_drew ?_ | refine blk_alloc ?_ _)); refine blk_far ?_ NB115_120.out _; (with_reducible repeat (first | refine blk_drewN ?_ _ | refine blk_drew ?_ | refine blk_alloc ?_ _)); exact BK115.out⟩
        have n3_ : Aside0 (((((((w16.setCell ⟨gb120, 0, none⟩ (.int .i64 ((rd_T83 t116 x17_1).f0.f0))).setCell ⟨gb120, 1, none⟩ (.int .i64 ((rd_T83 t116 x17_1).f0.f1))).setCell ⟨gb120, 2, none⟩ (.int .i64 ((rd_T83 t116 x17_1).f1))).setCell ⟨gb115, 0, none⟩ (.int .i64 ((rd_T83 t116 x17_1).f0.f0))).setCell ⟨gb115, 1, none⟩ (.int .i64 ((rd_T83 t116 x17_1).f0.f1))).setCell ⟨gb115, 2, none⟩ (.int .i64 ((rd_T83 t116 x17_1).f1))).heap[gb120]? = some (.cells #[.int .i64 ((rd_T83 t116 x17_1).f0.f0), .int .i64 ((rd_T83 t116 x17_1).f0.f1), .int .i64 ((rd_T83 t116 x17_1).f1)] 83 (0, 0))) := ⟨by (with_reducible repeat (first | refine blk_drewN ?_ _ | refine blk_drew ?_ | refine blk_alloc ?_ _)); refine blk_far ?_ NB120_115.out _; (with_reducible repeat (first | refine blk_drewN ?_ _ | refine blk_drew ?_ | refine blk_alloc ?_ _)); refine blk_far ?_ NB120_115.out _; (with_reducible repeat (first | refine blk_drewN ?_ _ | refine blk_drew ?_ | refine blk_alloc ?_ _)); refine blk_far ?_ NB120_115.out _; (with_reducible repeat (first | refine blk_drewN ?_ _ | refine blk_drew ?_ | refine blk_alloc ?_ _)); refine blk_put (cs := #[.int .i64 ((rd_T83 t116 x17_1).f0.f0), .int .i64 ((rd_T83 t116 x17_1).f0.f1), .int .i64 0]) ?_ 2 _ rfl; (with_reducible repeat (first | refine blk_drewN ?_ _ | refine blk_drew ?_ | refine blk_alloc ?_ _)); refine blk_put (cs := #[.int .i64 ((rd_T83 t116 x17_1).f0.f0), .int .i64 0, .int .i64 0]) ?_ 1 _ rfl; (with_reducible repeat (first | refine blk_drewN ?_ _ | refine blk_drew ?_ | refine blk_alloc ?_ _)); refine blk_put (cs := #[.int .i64 0, .int .i64 0, .int .i64 0]) ?_ 0 _ rfl; (with_reducible repeat (first | refine blk_drewN ?_ _ | refine blk_drew ?_ | refine blk_alloc ?_ _)); exact BK120.out⟩
        have n4_ : Aside0 (Below w.heap.size w ((((((w16.setCell ⟨gb120, 0, none⟩ (.int .i64 ((rd_T83 t116 x17_1).f0.f0))).setCell ⟨gb120, 1, none⟩ (.int .i64 ((rd_T83 t116 x17_1).f0.f1))).setCell ⟨gb120, 2, none⟩ (.int .i64 ((rd_T83 t116 x17_1).f1))).setCell ⟨gb115, 0, none⟩ (.int .i64 ((rd_T83 t116 x17_1).f0.f0))).setCell ⟨gb115, 1, none⟩ (.int .i64 ((rd_T83 t116 x17_1).f0.f1))).setCell ⟨gb115, 2, none⟩ (.int .i64 ((rd_T83 t116 x17_1).f1)))) := ⟨by repeat (first | (with_reducible first | exact HB.out | apply below_alloc | apply pw_below_drewN | apply below_drew1 | refine below_set ?_ GE113.out | refine below_set ?_ GE115.out | refine below_set ?_ GE120.out) | exact HB.out)⟩
        (try clear HO_15)
        (try clear BK113)
        (try clear BK115)
        (try clear BK120)
        (try clear HB)
        generalize ((((((w16.setCell ⟨gb120, 0, none⟩ (.int .i64 ((rd_T83 t116 x17_1).f0.f0))).setCell ⟨gb120, 1, none⟩ (.int .i64 ((rd_T83 t116 x17_1).f0.f1))).setCell ⟨gb120, 2, none⟩ (.int .i64 ((rd_T83 t116 x17_1).f1))).setCell ⟨gb115, 0, none⟩ (.int .i64 ((rd_T83 t116 x17_1).f0.f0))).setCell ⟨gb115, 1, none⟩ (.int .i64 ((rd_T83 t116 x17_1).f0.f1))).setCell ⟨gb115, 2, none⟩ (.int .i64 ((rd_T83 t116 x17_1).f1))) = w22 at n0_ n1_ n2_ n3_ n4_ ⊢
        have HO_15 := n0_
        have BK113 := n1_
        have BK115 := n2_
        have BK120 := n3_
        have HB := n4_
        clear n0_ n1_ n2_ n3_ n4_
        have n0_ := Aside0.mk (Kd.R_drew HO_15.out)
        have n1_ := Aside0.mk (blk_drew BK113.out)
        have n2_ := Aside0.mk (blk_drew BK115.out)
        have n3_ := Aside0.mk (blk_drew BK120.out)
        have n4_ := Aside0.mk (below_drew1 HB.out)
        clear HO_15 BK113 BK115 BK120 HB
        have HO_15 := n0_
        have BK113 := n1_
        have BK115 := n2_
        have BK120 := n3_
        have HB := n4_
        clear n0_ n1_ n2_ n3_ n4_
        refine start_ (n := 7) (S := fun w' => w'.cell? ⟨gb115, 0, none⟩ = some (.int .i64 ((rd_T83 t116 x17_1).f0.f0)) ∧ w'.cell? ⟨gb115, 1, none⟩ = some (.int .i64 ((rd_T83 t116 x17_1).f0.f1)) ∧ w'.cell? ⟨gb115, 2, none⟩ = some (.int .i64 ((rd_T83 t116 x17_1).f1))) (ds := []) #[false, false, false, false, false, false, false] (by kernel_rfl) rfl rfl ⟨(blk_cell BK115.out 0).trans rfl, (blk_cell BK115.out 1).trans rfl, (blk_cell BK115.out 2).trans rfl⟩ (fun hHeld => ?_)
        generalize w22.drew = w23 at HO_15 BK113 BK115 BK120 HB hHeld ⊢
        refine pure_ (i := 0) (N := some 28) (v := ?_) (a' := ?_) #[true, false, false, false, false, false, false] rfl rfl (by kernel_rfl) (fun _ _ _ h => h) (Or.inl ⟨by rfl, ?_⟩) ?_ ?_
        rotate_left; ·(intro w'; go_simp; with_reducible rfl)
        rotate_left; ·(simp only [Act.put, List.setIfInBounds_toArray, List.set_cons_zero, List.set_cons_succ, i64_w, i32_w]; rfl)
        refine pure_ (i := 2) (N := some 30) (v := ?_) (a' := ?_) #[true, false, true, false, false, false, false] rfl rfl (by kernel_rfl) (fun _ _ _ h => h) (Or.inl ⟨by rfl, ?_⟩) ?_ ?_
        rotate_left; ·(intro w'; go_simp; with_reducible rfl)
        rotate_left; ·(simp only [Act.put, List.setIfInBounds_toArray, List.set_cons_zero, List.set_cons_succ, i64_w, i32_w]; rfl)
        refine take_ (i := 1) (N := some 29) (v := ?_) (a' := ?_) #[true, true, true, false, false, false, false] rfl rfl (by kernel_rfl) (fun _ _ _ h => h) (Or.inl ⟨by rfl, ?_⟩) hHeld ?_ ?_
        rotate_left
        ·rintro w' ⟨s0, s1, s2⟩
         go_simp
         with_reducible rfl
        rotate_left; ·(simp only [Act.put, List.setIfInBounds_toArray, List.set_cons_zero, List.set_cons_succ, i64_w, i32_w]; rfl)
        refine take_ (i := 3) (N := some 31) (v := ?_) (a' := ?_) #[true, true, true, true, false, false, false] rfl rfl (by kernel_rfl) (fun _ _ _ h => h) (Or.inl ⟨by rfl, ?_⟩) hHeld ?_ ?_
        rotate_left
        ·rintro w' ⟨s0, s1, s2⟩
         go_simp
         with_reducible rfl
        rotate_left; ·(simp only [Act.put, List.setIfInBounds_toArray, List.set_cons_zero, List.set_cons_succ, i64_w, i32_w]; rfl)
        refine one_ (i := 4) (N := none) #[true, true, true, true, true, false, false] rfl rfl (by kernel_rfl) (by decide) (fun K hK => ?_)
        have hs24 : w23.cell? ⟨gb113, 0, none⟩ = some (.int .i64 0) := (blk_cell BK113.out 0).trans rfl
        have hfs24 := blk_frozen BK113.out 0
        have hns24_1 := NB115_113.out
        have hns24_2 := NB120_113.out
        have hms24_1 := NB113_115.out
        have hms24_2 := NB113_120.out
        have hs25 : w23.cell? ⟨gb113, 1, none⟩ = some (.int .i64 0) := (blk_cell BK113.out 1).trans rfl
        have hfs25 := blk_frozen BK113.out 1
        have hns25_1 := NB115_113.out
        have hns25_2 := NB120_113.out
        have hms25_1 := NB113_115.out
        have hms25_2 := NB113_120.out
        refine skip_ (w1 := ?_) (by rfl) rfl ?_ ?_
        rotate_left
        ·go_simp
         rfl
        refine hK.out _ _ ⟨((cell_far (p := ⟨gb113, _, none⟩) NB115_113.out _).trans (((cell_far (p := ⟨gb113, _, none⟩) NB115_113.out _).trans (hHeld.1)))), ((cell_far (p := ⟨gb113, _, none⟩) NB115_113.out _).trans (((cell_far (p := ⟨gb113, _, none⟩) NB115_113.out _).trans (hHeld.2.1)))), ((cell_far (p := ⟨gb113, _, none⟩) NB115_113.out _).trans (((cell_far (p := ⟨gb113, _, none⟩) NB115_113.out _).trans (hHeld.2.2))))⟩ (fun hHeld => ?_)
        clear hK K
        refine pure_ (i := 5) (N := some 5) (v := ?_) (a' := ?_) #[true, true, true, true, true, true, false] rfl rfl (by kernel_rfl) (fun _ _ _ h => h) (Or.inl ⟨by rfl, ?_⟩) ?_ ?_
        rotate_left; ·(intro w'; go_simp; with_reducible rfl)
        rotate_left; ·(simp only [Act.put, List.setIfInBounds_toArray, List.set_cons_zero, List.set_cons_succ, i64_w, i32_w]; rfl)
        refine pure_ (i := 6) (N := some 6) (v := ?_) (a' := ?_) #[true, true, true, true, true, true, true] rfl rfl (by kernel_rfl) (fun _ _ _ h => h) (Or.inl ⟨by rfl, ?_⟩) ?_ ?_
        rotate_left; ·(intro w'; go_simp; with_reducible rfl)
        rotate_left; ·(simp only [Act.put, List.setIfInBounds_toArray, List.set_cons_zero, List.set_cons_succ, i64_w, i32_w]; rfl)
        refine done_ (by kernel_rfl) ?_
        try go_wp2
        refine bodyPost_ret (results_ctt rfl _ _ gb113 36 #[.int .i64 ((rd_T83 t116 x17_1).f0.f0), .int .i64 ((rd_T83 t116 x17_1).f0.f1)] (0, 0) _ rfl (by (with_reducible repeat (first | refine blk_drewN ?_ _ | refine blk_drew ?_ | refine blk_alloc ?_ _)); refine blk_put (cs := #[.int .i64 ((rd_T83 t116 x17_1).f0.f0), .int .i64 0]) ?_ 1 _ rfl; (with_reducible repeat (first | refine blk_drewN ?_ _ | refine blk_drew ?_ | refine blk_alloc ?_ _)); refine blk_put (cs := #[.int .i64 0, .int .i64 0]) ?_ 0 _ rfl; (with_reducible repeat (first | refine blk_drewN ?_ _ | refine blk_drew ?_ | refine blk_alloc ?_ _)); exact BK113.out) Tryd.underlying36 rfl (by kernel_rfl)) rfl ?_
        exact ⟨by first | rfl | (simp [errW_none, errW_some] <;> rfl) | (simp [*, errW_none, errW_some] <;> rfl), by repeat (first | (with_reducible first | exact HB.out | apply below_alloc | apply pw_below_drewN | apply below_drew1 | refine below_set ?_ GE113.out | refine below_set ?_ GE115.out | refine below_set ?_ GE120.out) | exact HB.out)⟩
       ·rw [if_neg c15] at H
        have c15b0 : decide (a1 < ((rd_T83 t116 x17_1).f0.f1)) = false := decide_eq_false c15
        clear c15
        have H' := Aside0.mk H
        clear H
        have p119 : 0 ≤ (x17_1 : Int) := of_decide_eq_true (by first | (with_reducible assumption) | assumption)
        have q119 : x17_1 < (t116.length : Int) := of_decide_eq_true (by first | (with_reducible assumption) | assumption)
        obtain ⟨ad119, e119, hx119_0, hx119_1, hx119_2⟩ := at_T83 (Kd.R_reads' HO_15.out).2.2 x17_1 p119 q119
        cases e119
        replace p119 := eq_true p119
        replace q119 := eq_true q119
        go_wp2_with (first | ((with_reducible refine gate_dst (N := 9) rfl ?_); refine box_event ?hg (N := 9) ?hd (cs := #[.int .i64 0, .int .i64 0, .int .i64 0]) (t := 83) ?hr ?_; (case hd => rfl); (case hg => rfl); (case hr => first | (go_simp; done) | (go_simp; rfl)); intro gb120 hg w26 hbox hb; have n0_ := Aside0.mk (Kd.R_below (Kd.R_elderB (by (with_reducible repeat (first | apply Kd.R_alloc | apply Kd.R_drewN | apply Kd.R_drew)); exact HO_15.out) gb120 (Nat.le_of_eq hg.symm)) hb); have n1_ := Aside0.mk (blk_below (g := gb113) (o := .cells #[.int .i64 0, .int .i64 0] 36 (0, 0)) (by (with_reducible repeat (first | refine blk_drewN ?_ _ | refine blk_drew ?_ | refine blk_alloc ?_ _)); exact BK113.out) hb); have n2_ := Aside0.mk (blk_below (g := gb115) (o := .cells #[.int .i64 x116000_1, .int .i64 x116001_1, .int .i64 x116002_1] 83 (0, 0)) (by (with_reducible repeat (first | refine blk_drewN ?_ _ | refine blk_drew ?_ | refine blk_alloc ?_ _)); exact BK115.out) hb); have n3_ := Aside0.mk (below_step (by repeat (first | (with_reducible first | exact HB.out | apply below_alloc | apply pw_below_drewN | apply below_drew1 | refine below_set ?_ GE113.out | refine below_set ?_ GE115.out) | exact HB.out)) hb); have n4_ := Aside0.mk (hbox); have n5_ := Aside0.mk ((by rw [hg]; exact (below_size (by repeat (first | (with_reducible first | exact HB.out | apply below_alloc | apply pw_below_drewN | apply below_drew1 | refine below_set ?_ GE113.out | refine below_set ?_ GE115.out) | exact HB.out))) : w.heap.size ≤ gb120)); have n6_ := Aside0.mk ((by rw [hg]; exact (below_size (by repeat (first | (with_reducible first | exact HB.out | apply below_alloc | apply pw_below_drewN | apply below_drew1 | refine below_set ?_ GE113.out | refine below_set ?_ GE115.out) | exact HB.out))) : w.heap.size ≤ gb120)); have n7_ := Aside0.mk ((by rw [hg]; exact Nat.ne_of_lt (blk_lt (g := gb113) (o := .cells #[.int .i64 0, .int .i64 0] 36 (0, 0)) (by (with_reducible repeat (first | refine blk_drewN ?_ _ | refine blk_drew ?_ | refine blk_alloc ?_ _)); exact BK113.out)) : gb113 ≠ gb120)); have n8_ := Aside0.mk ((by rw [hg]; exact Nat.ne_of_gt (blk_lt (g := gb113) (o := .cells #[.int .i64 0, .int .i64 0] 36 (0, 0)) (by (with_reducible repeat (first | refine blk_drewN ?_ _ | refine blk_drew ?_ | refine blk_alloc ?_ _)); exact BK113.out)) : gb120 ≠ gb113)); have n9_ := Aside0.mk ((by rw [hg]; exact Nat.ne_of_lt (blk_lt (g := gb115) (o := .cells #[.int .i64 x116000_1, .int .i64 x116001_1, .int .i64 x116002_1] 83 (0, 0)) (by (with_reducible repeat (first | refine blk_drewN ?_ _ | refine blk_drew ?_ | refine blk_alloc ?_ _)); exact BK115.out)) : gb115 ≠ gb120)); have n10_ := Aside0.mk ((by rw [hg]; exact Nat.ne_of_gt (blk_lt (g := gb115) (o := .cells #[.int .i64 x116000_1, .int .i64 x116001_1, .int .i64 x116002_1] 83 (0, 0)) (by (with_reducible repeat (first | refine blk_drewN ?_ _ | refine blk_drew ?_ | refine blk_alloc ?_ _)); exact BK115.out)) : gb120 ≠ gb115)); clear HO_15; clear BK113; clear BK115; clear HB; have HO_15 := n0_; have BK113 := n1_; have BK115 := n2_; have HB := n3_; have BK120 := n4_; have GW120 := n5_; have GE120 := n6_; have NB113_120 := n7_; have NB120_113 := n8_; have NB115_120 := n9_; have NB120_115 := n10_; clear n0_ n1_ n2_ n3_ n4_ n5_ n6_ n7_ n8_ n9_ n10_; clear hb hbox hg; have hnb27 := NB120_113.out; have hnc27 := NB113_120.out; have hnb28 := NB120_115.out; have hnc28 := NB115_120.out; have hcz29_0 : w26.cell? ⟨gb120, 0, none⟩ = some (.int .i64 0) := (blk_cell BK120.out 0).trans rfl; have hcz29_1 : w26.cell? ⟨gb120, 1, none⟩ = some (.int .i64 0) := (blk_cell BK120.out 1).trans rfl; have hcz29_2 : w26.cell? ⟨gb120, 2, none⟩ = some (.int .i64 0) := (blk_cell BK120.out 2).trans rfl; have hfz29_0 := blk_frozen BK120.out 0; have hfz29_1 := blk_frozen BK120.out 1; have hfz29_2 := blk_frozen BK120.out 2; have hnb30 := NB115_113.out; have hnc30 := NB113_115.out; have hcz31_0 : w26.cell? ⟨gb115, 0, none⟩ = some (.int .i64 x116000_1) := (blk_cell BK115.out 0).trans rfl; have hcz31_1 : w26.cell? ⟨gb115, 1, none⟩ = some (.int .i64 x116001_1) := (blk_cell BK115.out 1).trans rfl; have hcz31_2 : w26.cell? ⟨gb115, 2, none⟩ = some (.int .i64 x116002_1) := (blk_cell BK115.out 2).trans rfl; have hfz31_0 := blk_frozen BK115.out 0; have hfz31_1 := blk_frozen BK115.out 1; have hfz31_2 := blk_frozen BK115.out 2))
        go_roundg k1
        case measure => have := HK1.out; omega
        case rel => exact ⟨(wrap64 (x17_1 + 1)), ((rd_T83 t116 x17_1).f0.f0), ((rd_T83 t116 x17_1).f0.f1), ((rd_T83 t116 x17_1).f1), (by first | rfl | (simp; done) | (simp [*]; done)), H', ⟨by have := HK1.out; omega⟩, ⟨by (with_reducible repeat (first | apply Kd.R_alloc | apply Kd.R_drewN | apply Kd.R_drew)); exact Kd.R_mono (Kd.R_far (p := ⟨gb115, 2, none⟩) (Kd.R_far (p := ⟨gb115, 1, none⟩) (Kd.R_far (p := ⟨gb115, 0, none⟩) (Kd.R_far (p := ⟨gb120, 2, none⟩) (Kd.R_far (p := ⟨gb120, 1, none⟩) (Kd.R_far (p := ⟨gb120, 0, none⟩) (Kd.R_mono (Kd.R_mono HO_15.out (fun k_ hk => (⟨hk, hk.2⟩ : _ ∧ k_ ≠ gb120))) (fun k_ hk => (⟨hk, hk.1.1⟩ : _ ∧ k_ ≠ gb115))) (fun _ hk => hk.1.2) (.int .i64 ((rd_T83 t116 x17_1).f0.f0))) (fun _ hk => hk.1.2) (.int .i64 ((rd_T83 t116 x17_1).f0.f1))) (fun _ hk => hk.1.2) (.int .i64 ((rd_T83 t116 x17_1).f1))) (fun _ hk => hk.2) (.int .i64 ((rd_T83 t116 x17_1).f0.f0))) (fun _ hk => hk.2) (.int .i64 ((rd_T83 t116 x17_1).f0.f1))) (fun _ hk => hk.2) (.int .i64 ((rd_T83 t116 x17_1).f1))) (fun _ hk => hk.1.1.1)⟩, ⟨by (with_reducible repeat (first | refine blk_drewN ?_ _ | refine blk_drew ?_ | refine blk_alloc ?_ _)); refine blk_far ?_ NB113_115.out _; (with_reducible repeat (first | refine blk_drewN ?_ _ | refine blk_drew ?_ | refine blk_alloc ?_ _)); refine blk_far ?_ NB113_115.out _; (with_reducible repeat (first | refine blk_drewN ?_ _ | refine blk_drew ?_ | refine blk_alloc ?_ _)); refine blk_far ?_ NB113_115.out _; (with_reducible repeat (first | refine blk_drewN ?_ _ | refine blk_drew ?_ | refine blk_alloc ?_ _)); refine blk_far ?_ NB113_120.out _; (with_reducible repeat (first | refine blk_drewN ?_ _ | refine blk_drew ?_ | refine blk_alloc ?_ _)); refine blk_far ?_ NB113_120.out _; (with_reducible repeat (first | refine blk_drewN ?_ _ | refine blk_drew ?_ | refine blk_alloc ?_ _)); refine blk_far ?_ NB113_120.out _; (with_reducible repeat (first | refine blk_drewN ?_ _ | refine blk_drew ?_ | refine blk_alloc ?_ _)); exact BK113.out⟩, ⟨by (with_reducible repeat (first | refine blk_drewN ?_ _ | refine blk_drew ?_ | refine blk_alloc ?_ _)); refine blk_put (cs := #[.int .i64 ((rd_T83 t116 x17_1).f0.f0), .int .i64 ((rd_T83 t116 x17_1).f0.f1), .int .i64 x116002_1]) ?_ 2 _ rfl; (with_reducible repeat (first | refine blk_drewN ?_ _ | refine blk_drew ?_ | refine blk_alloc ?_ _)); refine blk_put (cs := #[.int .i64 ((rd_T83 t116 x17_1).f0.f0), .int .i64 x116001_1, .int .i64 x116002_1]) ?_ 1 _ rfl; (with_reducible repeat (first | refine blk_drewN ?_ _ | refine blk_drew ?_ | refine blk_alloc ?_ _)); refine blk_put (cs := #[.int .i64 x116000_1, .int .i64 x116001_1, .int .i64 x116002_1]) ?_ 0 _ rfl; (with_reducible repeat (first | refine blk_drewN ?_ _ | refine blk_drew ?_ | refine blk_alloc ?_ _)); refine blk_far ?_ NB115_120.out _; (with_reducible repeat (first | refine blk_drewN ?_ _ | refine blk_drew ?_ | refine blk_alloc ?_ _)); refine blk_far ?_ NB115_120.out _; (with_reducible repeat (first | refine blk_drewN ?_ _ | refine blk_drew ?_ | refine blk_alloc ?_ _)); refine blk_far ?_ NB115_120.out _; (with_reducible repeat (first | refine blk_drewN ?_ _ | refine blk_drew ?_ | refine blk_alloc ?_ _)); exact BK115.out⟩, ⟨by repeat (first | (with_reducible first | exact HB.out | apply below_alloc | apply pw_below_drewN | apply below_drew1 | refine below_set ?_ GE113.out | refine below_set ?_ GE115.out | refine below_set ?_ GE120.out) | exact HB.out)⟩⟩
      ·rw [if_neg c14] at H
       exact absurd H (by simp)
     ·rw [if_neg c13] at H
      exact absurd H (by simp)
    ·rw [if_neg c12] at H
     have c12b0 : decide (x17_1 < (t116.length : Int)) = false := decide_eq_false c12
     clear c12
     simp only [Option.some.injEq, Prod.mk.injEq] at H
     obtain ⟨rfl, rfl, rfl, rfl⟩ := H
     try go_wp2
     have n0_ := Aside0.mk (Kd.R_drew HO_15.out)
     have n1_ := Aside0.mk (blk_drew BK113.out)
     have n2_ := Aside0.mk (blk_drew BK115.out)
     have n3_ := Aside0.mk (below_drew1 HB.out)
     clear HO_15 BK113 BK115 HB
     have HO_15 := n0_
     have BK113 := n1_
     have BK115 := n2_
     have HB := n3_
     clear n0_ n1_ n2_ n3_
     refine start_ (n := 7) (S := fun w' => w'.cell? ⟨gb115, 0, none⟩ = some (.int .i64 x116000_1) ∧ w'.cell? ⟨gb115, 1, none⟩ = some (.int .i64 x116001_1) ∧ w'.cell? ⟨gb115, 2, none⟩ = some (.int .i64 x116002_1)) (ds := []) #[false, false, false, false, false, false, false] (by kernel_rfl) rfl rfl ⟨(blk_cell BK115.out 0).trans rfl, (blk_cell BK115.out 1).trans rfl, (blk_cell BK115.out 2).trans rfl⟩ (fun hHeld => ?_)
     generalize wr.drew = w32 at HO_15 BK113 BK115 HB hHeld ⊢
     refine pure_ (i := 0) (N := some 28) (v := ?_) (a' := ?_) #[true, false, false, false, false, false, false] rfl rfl (by kernel_rfl) (fun _ _ _ h => h) (Or.inl ⟨by rfl, ?_⟩) ?_ ?_
     rotate_left; ·(intro w'; go_simp; with_reducible rfl)
     rotate_left; ·(simp only [Act.put, List.setIfInBounds_toArray, List.set_cons_zero, List.set_cons_succ, i64_w, i32_w]; rfl)
     refine pure_ (i := 2) (N := some 30) (v := ?_) (a' := ?_) #[true, false, true, false, false, false, false] rfl rfl (by kernel_rfl) (fun _ _ _ h => h) (Or.inl ⟨by rfl, ?_⟩) ?_ ?_
     rotate_left; ·(intro w'; go_simp; with_reducible rfl)
     rotate_left; ·(simp only [Act.put, List.setIfInBounds_toArray, List.set_cons_zero, List.set_cons_succ, i64_w, i32_w]; rfl)
     refine take_ (i := 1) (N := some 29) (v := ?_) (a' := ?_) #[true, true, true, false, false, false, false] rfl rfl (by kernel_rfl) (fun _ _ _ h => h) (Or.inl ⟨by rfl, ?_⟩) hHeld ?_ ?_
     rotate_left
     ·rintro w' ⟨s0, s1, s2⟩
      go_simp
      with_reducible rfl
     rotate_left; ·(simp only [Act.put, List.setIfInBounds_toArray, List.set_cons_zero, List.set_cons_succ, i64_w, i32_w]; rfl)
     refine take_ (i := 3) (N := some 31) (v := ?_) (a' := ?_) #[true, true, true, true, false, false, false] rfl rfl (by kernel_rfl) (fun _ _ _ h => h) (Or.inl ⟨by rfl, ?_⟩) hHeld ?_ ?_
     rotate_left
     ·rintro w' ⟨s0, s1, s2⟩
      go_simp
      with_reducible rfl
     rotate_left; ·(simp only [Act.put, List.setIfInBounds_toArray, List.set_cons_zero, List.set_cons_succ, i64_w, i32_w]; rfl)
     refine one_ (i := 4) (N := none) #[true, true, true, true, true, false, false] rfl rfl (by kernel_rfl) (by decide) (fun K hK => ?_)
     have hs33 : w32.cell? ⟨gb113, 0, none⟩ = some (.int .i64 0) := (blk_cell BK113.out 0).trans rfl
     have hfs33 := blk_frozen BK113.out 0
     have hns33_1 := NB115_113.out
     have hms33_1 := NB113_115.out
     have hs34 : w32.cell? ⟨gb113, 1, none⟩ = some (.int .i64 0) := (blk_cell BK113.out 1).trans rfl
     have hfs34 := blk_frozen BK113.out 1
     have hns34_1 := NB115_113.out
     have hms34_1 := NB113_115.out
     refine skip_ (w1 := ?_) (by rfl) rfl ?_ ?_
     rotate_left
     ·go_simp
      rfl
     refine hK.out _ _ ⟨((cell_far (p := ⟨gb113, _, none⟩) NB115_113.out _).trans (((cell_far (p := ⟨gb113, _, none⟩) NB115_113.out _).trans (hHeld.1)))), ((cell_far (p := ⟨gb113, _, none⟩) NB115_113.out _).trans (((cell_far (p := ⟨gb113, _, none⟩) NB115_113.out _).trans (hHeld.2.1)))), ((cell_far (p := ⟨gb113, _, none⟩) NB115_113.out _).trans (((cell_far (p := ⟨gb113, _, none⟩) NB115_113.out _).trans (hHeld.2.2))))⟩ (fun hHeld => ?_)
     clear hK K
     refine pure_ (i := 5) (N := some 5) (v := ?_) (a' := ?_) #[true, true, true, true, true, true, false] rfl rfl (by kernel_rfl) (fun _ _ _ h => h) (Or.inl ⟨by rfl, ?_⟩) ?_ ?_
     rotate_left; ·(intro w'; go_simp; with_reducible rfl)
     rotate_left; ·(simp only [Act.put, List.setIfInBounds_toArray, List.set_cons_zero, List.set_cons_succ, i64_w, i32_w]; rfl)
     refine pure_ (i := 6) (N := some 6) (v := ?_) (a' := ?_) #[true, true, true, true, true, true, true] rfl rfl (by kernel_rfl) (fun _ _ _ h => h) (Or.inl ⟨by rfl, ?_⟩) ?_ ?_
     rotate_left; ·(intro w'; go_simp; with_reducible rfl)
     rotate_left; ·(simp only [Act.put, List.setIfInBounds_toArray, List.set_cons_zero, List.set_cons_succ, i64_w, i32_w]; rfl)
     refine done_ (by kernel_rfl) ?_
     try go_wp2
     refine bodyPost_ret (results_ctt rfl _ _ gb113 36 #[.int .i64 x116000_1, .int .i64 x116001_1] (0, 0) _ rfl (by (with_reducible repeat (first | refine blk_drewN ?_ _ | refine blk_drew ?_ | refine blk_alloc ?_ _)); refine blk_put (cs := #[.int .i64 x116000_1, .int .i64 0]) ?_ 1 _ rfl; (with_reducible repeat (first | refine blk_drewN ?_ _ | refine blk_drew ?_ | refine blk_alloc ?_ _)); refine blk_put (cs := #[.int .i64 0, .int .i64 0]) ?_ 0 _ rfl; (with_reducible repeat (first | refine blk_drewN ?_ _ | refine blk_drew ?_ | refine blk_alloc ?_ _)); exact BK113.out) Tryd.underlying36 rfl (by kernel_rfl)) rfl ?_
     exact ⟨by first | rfl | (simp [errW_none, errW_some] <;> rfl) | (simp [*, errW_none, errW_some] <;> rfl), by repeat (first | (with_reducible first | exact HB.out | apply below_alloc | apply pw_below_drewN | apply below_drew1 | refine below_set ?_ GE113.out | refine below_set ?_ GE115.out) | exact HB.out)⟩

end Go.Proofs.YtijbkiajhicooaaDoor.PW

namespace Go.Proofs.YtijbkiajhicooaaDoor.PW
open Go.RowKit Go.Proofs.YtijbkiajhicooaaDoorW.PrintWords Go.Proofs.YtijbkiajhicooaaDoorW.PrintLast Go.Proofs.YtijbkiajhicooaaDoorW.PrintMore
attribute [local go_sem] max2_int min2_int max_two min_two max_three min_three max_four min_four   -- for this text's walks alone
set_option linter.unusedVariables false
set_option linter.unusedSimpArgs false

def words_Next.l0 : Nat → List Int → Int → List (S36) → Int → Int → Option (Int × Int)
 | 0, _, _, _, _, _ => none
 | k + 1, x0, x1, x12, x13, x14 => if x14 < x13 then (if 0 ≤ x14 then (if x14 < (x12.length : Int) then (if ((rd_T36 x12 x14).f0) > x1 then (some ((rd_T36 x12 x14).f0, 0)) else (words_Next.l0 k x0 x1 x12 x13 (wrap64 (x14 + 1)))) else (none)) else (none)) else (some ((x0.length : Int), 0))
def words_Next.f (k : Nat) (l0 : List Int) (a1 : Int) : Option (Int × Int) := (words_outside.f l0 a1).bind fun t121 => (if t121 = true then (some (0, 2)) else ((words_All.f k l0).bind fun t122 => (words_Next.l0 k l0 a1 t122 (t122.length : Int) 0)))
set_option maxHeartbeats 8000000 in
set_option maxRecDepth 100000 in
theorem words_Next.calls (k : Nat) (A0 : Option Addr) (c0 : Nat) (l0 : List Int) (a1 : Int) (r1 : Int) (r2 : Int) (w : World) (hr0 : Kd.C (Kd.int .u8) w A0 l0.length l0) (hc0 : l0.length ≤ c0) (hL : LaidBad w) (h : words_Next.f k l0 a1 = some (r1, r2)) :
  Calls Tryd.prog 22 #[.slice A0 l0.length c0, .int .i64 a1] w fun e w' => e = .returned (.tuple #[.int .i64 r1, .int .i64 r2]) ∧ Below w.heap.size w w' := by
 have hu36 := Tryd.underlying36
 have HR0 := Aside0.mk hr0
 have HC0 := Aside0.mk hc0
 clear hr0 hc0
 have HB := Aside0.mk (Below.refl w.heap.size w)
 have HLB := Aside0.mk hL
 clear hL
 have H : ((words_outside.f l0 a1).bind fun t121 => (if t121 = true then (some (0, 2)) else ((words_All.f k l0).bind fun t122 => (words_Next.l0 k l0 a1 t122 (t122.length : Int) 0)))) = some (r1, r2) := h
 clear h
 replace H := Option.bind_eq_some_iff.mp H
 obtain ⟨t121, A30, H⟩ := H
 replace H : (if t121 = true then (some (0, 2)) else ((words_All.f k l0).bind fun t122 => (words_Next.l0 k l0 a1 t122 (t122.length : Int) 0))) = some (r1, r2) := H
 have A3 := Aside0.mk A30
 clear A30
 by_cases c4 : t121 = true
 ·subst c4
  have H1 : (some (0, 2)) = some (r1, r2) := by rw [if_pos rfl] at H; exact H
  clear H
  have H := H1
  clear H1
  simp only [Option.some.injEq, Prod.mk.injEq] at H
  obtain ⟨rfl, rfl⟩ := H
  go_enter Tryd.func22, Tryd.ntmps22
  go_wp2_with (first | ((with_reducible refine gate_callee (f := 44) rfl ?_); refine goesL_ (some 10) rfl rfl Tryd.func44 (by kernel_rfl) rfl #[.slice A0 l0.length c0, .int .i64 a1] rfl (by (try simp only [List.map_toArray, List.map_cons, List.map_nil]); first | done | rfl | (simp only [List.length_drop, List.length_take]; rfl)) ?_; (with_reducible refine (words_outside.calls _ _ l0 a1 true _ ?side1 ?side2 A3.out).mono ?_); (case side1 => repeat (first | exact HR0.out | (with_reducible refine Kd.C_alloc ?_ _) | (with_reducible refine Kd.C_drewN ?_ _) | (with_reducible refine Kd.C_drew ?_))); (case side2 => exact HC0.out); rintro e w' ⟨rfl, ⟨nd, rfl⟩⟩; refine ⟨_, rfl, ?_⟩))
  go_ret2
  exact ⟨by first | rfl | (simp [errW_none, errW_some] <;> rfl) | (simp [*, errW_none, errW_some] <;> rfl), by repeat (first | (with_reducible first | exact HB.out | apply below_alloc | apply pw_below_drewN | apply below_drew1) | exact HB.out)⟩
 ·replace c4 := Bool.eq_false_iff.mpr c4
  subst c4
  have H1 : ((words_All.f k l0).bind fun t122 => (words_Next.l0 k l0 a1 t122 (t122.length : Int) 0)) = some (r1, r2) := by rw [if_neg (show ¬ (false = true) by decide)] at H; exact H
  clear H
  have H := H1
  clear H1
  replace H := Option.bind_eq_some_iff.mp H
  obtain ⟨t122, A50, H⟩ := H
  replace H : (words_Next.l0 k l0 a1 t122 (t122.length : Int) 0) = some (r1, r2) := H
  have A5 := Aside0.mk A50
  clear A50
  have H' := Aside0.mk H
  clear H
  go_enter Tryd.func22, Tryd.ntmps22
  go_wp2_with (first | ((with_reducible refine gate_callee (f := 44) rfl ?_); refine goesL_ (some 10) rfl rfl Tryd.func44 (by kernel_rfl) rfl #[.slice A0 l0.length c0, .int .i64 a1] rfl (by (try simp only [List.map_toArray, List.map_cons, List.map_nil]); first | done | rfl | (simp only [List.length_drop, List.length_take]; rfl)) ?_; (with_reducible refine (words_outside.calls _ _ l0 a1 false _ ?side1 ?side2 A3.out).mono ?_); (case side1 => repeat (first | exact HR0.out | (with_reducible refine Kd.C_alloc ?_ _) | (with_reducible refine Kd.C_drewN ?_ _) | (with_reducible refine Kd.C_drew ?_))); (case side2 => exact HC0.out); rintro e w' ⟨rfl, ⟨nd, rfl⟩⟩; refine ⟨_, rfl, ?_⟩) | ((with_reducible refine gate_callee (f := 17) rfl ?_); refine goesL_ (some 12) rfl rfl Tryd.func17 (by kernel_rfl) rfl #[.slice A0 l0.length c0] rfl (by (try simp only [List.map_toArray, List.map_cons, List.map_nil]); first | done | rfl | (simp only [List.length_drop, List.length_take]; rfl)) ?_; (with_reducible refine (words_All.calls k _ _ l0 t122 _ ?side1 ?side2 ?side3 A5.out).mono ?_); (case side1 => repeat (first | exact HR0.out | (with_reducible refine Kd.C_alloc ?_ _) | (with_reducible refine Kd.C_drewN ?_ _) | (with_reducible refine Kd.C_drew ?_))); (case side2 => exact HC0.out); (case side3 => exact laid_below HLB.out (by repeat (first | (with_reducible first | exact HB.out | apply below_alloc | apply pw_below_drewN | apply below_drew1) | exact HB.out))); rintro e w6 ⟨v123, rfl, ho0, hb⟩; refine ⟨_, rfl, ?_⟩; have n0_ := Aside0.mk (Kd.R_lower ho0 (below_size (by repeat (first | (with_reducible first | exact HB.out | apply below_alloc | apply pw_below_drewN | apply below_drew1) | exact HB.out)))); have n1_ := Aside0.mk (below_step (by repeat (first | (with_reducible first | exact HB.out | apply below_alloc | apply pw_below_drewN | apply below_drew1) | exact HB.out)) hb); clear HB; have HO124 := n0_; have HB := n1_; clear n0_ n1_; (try clear hb); (try clear hb2); (try clear hk); (try clear hi); (try clear ho0); obtain ⟨Ao7, co7, eo7⟩ := Kd.R_slice HO124.out; subst eo7))
  go_loopg [14] k (fun kq v14 w' => ∃ (x14_1 : Int), v14 = .int .i64 x14_1 ∧ Aside0 (words_Next.l0 kq l0 a1 t122 (t122.length : Int) x14_1 = some (r1, r2)) ∧ Aside0 (kq ≤ k) ∧ Aside0 (Kd.R k36 36 w' w.heap.size (fun _ => True) (.slice Ao7 t122.length co7) t122) ∧ Aside0 (Below w.heap.size w w'))
  case atStart => exact ⟨(0), (by first | rfl | (simp; done) | (simp [*]; done)), H', ⟨Nat.le_refl _⟩, ⟨by (with_reducible repeat (first | apply Kd.R_alloc | apply Kd.R_drewN | apply Kd.R_drew)); exact HO124.out⟩, ⟨by repeat (first | (with_reducible first | exact HB.out | apply below_alloc | apply pw_below_drewN | apply below_drew1) | exact HB.out)⟩⟩
  case round =>
   clear H'
   try clear c1
   try clear c2
   try clear p2
   try clear c4
   obtain ⟨x14_1, rfl, HA, HK1, HO_12, HB⟩ := hrel
   cases gk with
   | zero => exact absurd HA.out (by simp [words_Next.l0])
   | succ k1 =>
    have H := HA.out
    clear HA
    simp only [words_Next.l0] at H
    by_cases c8 : x14_1 < (t122.length : Int)
    ·rw [if_pos c8] at H
     have c8b0 : decide (x14_1 < (t122.length : Int)) = true := decide_eq_true c8
     clear c8
     by_cases c9 : 0 ≤ x14_1
     ·rw [if_pos c9] at H
      have c9b0 : decide (0 ≤ x14_1) = true := decide_eq_true c9
      clear c9
      by_cases c10 : x14_1 < (t122.length : Int)
      ·rw [if_pos c10] at H
       have c10b0 : decide (x14_1 < (t122.length : Int)) = true := decide_eq_true c10
       clear c10
       by_cases c11 : ((rd_T36 t122 x14_1).f0) > a1
       ·rw [if_pos c11] at H
        have c11b0 : decide (a1 < ((rd_T36 t122 x14_1).f0)) = true := decide_eq_true c11
        clear c11
        simp only [Option.some.injEq, Prod.mk.injEq] at H
        obtain ⟨rfl, rfl⟩ := H
        have p125 : 0 ≤ (x14_1 : Int) := of_decide_eq_true (by first | (with_reducible assumption) | assumption)
        have q125 : x14_1 < (t122.length : Int) := of_decide_eq_true (by first | (with_reducible assumption) | assumption)
        obtain ⟨ad125, e125, hx125_0, hx125_1⟩ := at_T36 (Kd.R_reads' HO_12.out).2.2 x14_1 p125 q125
        cases e125
        replace p125 := eq_true p125
        replace q125 := eq_true q125
        go_wp2_with (first | ((with_reducible refine gate_dst (N := 7) rfl ?_); refine box_event ?hg (N := 7) ?hd (cs := #[.int .i64 0, .int .i64 0]) (t := 36) ?hr ?_; (case hd => rfl); (case hg => rfl); (case hr => first | (go_simp; done) | (go_simp; rfl)); intro gb126 hg w12 hbox hb; have n0_ := Aside0.mk (Kd.R_below (Kd.R_elderB (by (with_reducible repeat (first | apply Kd.R_alloc | apply Kd.R_drewN | apply Kd.R_drew)); exact HO_12.out) gb126 (Nat.le_of_eq hg.symm)) hb); have n1_ := Aside0.mk (below_step (by repeat (first | (with_reducible first | exact HB.out | apply below_alloc | apply pw_below_drewN | apply below_drew1) | exact HB.out)) hb); have n2_ := Aside0.mk (hbox); have n3_ := Aside0.mk ((by rw [hg]; exact (below_size (by repeat (first | (with_reducible first | exact HB.out | apply below_alloc | apply pw_below_drewN | apply below_drew1) | exact HB.out))) : w.heap.size ≤ gb126)); have n4_ := Aside0.mk ((by rw [hg]; exact (below_size (by repeat (first | (with_reducible first | exact HB.out | apply below_alloc | apply pw_below_drewN | apply below_drew1) | exact HB.out))) : w.heap.size ≤ gb126)); clear HO_12; clear HB; have HO_12 := n0_; have HB := n1_; have BK126 := n2_; have GW126 := n3_; have GE126 := n4_; clear n0_ n1_ n2_ n3_ n4_; clear hb hbox hg; have hcz13_0 : w12.cell? ⟨gb126, 0, none⟩ = some (.int .i64 0) := (blk_cell BK126.out 0).trans rfl; have hcz13_1 : w12.cell? ⟨gb126, 1, none⟩ = some (.int .i64 0) := (blk_cell BK126.out 1).trans rfl; have hfz13_0 := blk_frozen BK126.out 0; have hfz13_1 := blk_frozen BK126.out 1))
        go_ret2
        exact ⟨by first | rfl | (simp [errW_none, errW_some] <;> rfl) | (simp [*, errW_none, errW_some] <;> rfl), by repeat (first | (with_reducible first | exact HB.out | apply below_alloc | apply pw_below_drewN | apply below_drew1 | refine below_set ?_ GE126.out) | exact HB.out)⟩
       ·rw [if_neg c11] at H
        have c11b0 : decide (a1 < ((rd_T36 t122 x14_1).f0)) = false := decide_eq_false c11
        clear c11
        have H' := Aside0.mk H
        clear H
        have p125 : 0 ≤ (x14_1 : Int) := of_decide_eq_true (by first | (with_reducible assumption) | assumption)
        have q125 : x14_1 < (t122.length : Int) := of_decide_eq_true (by first | (with_reducible assumption) | assumption)
        obtain ⟨ad125, e125, hx125_0, hx125_1⟩ := at_T36 (Kd.R_reads' HO_12.out).2.2 x14_1 p125 q125
        cases e125
        replace p125 := eq_true p125
        replace q125 := eq_true q125
        go_wp2_with (first | ((with_reducible refine gate_dst (N := 7) rfl ?_); refine box_event ?hg (N := 7) ?hd (cs := #[.int .i64 0, .int .i64 0]) (t := 36) ?hr ?_; (case hd => rfl); (case hg => rfl); (case hr => first | (go_simp; done) | (go_simp; rfl)); intro gb126 hg w14 hbox hb; have n0_ := Aside0.mk (Kd.R_below (Kd.R_elderB (by (with_reducible repeat (first | apply Kd.R_alloc | apply Kd.R_drewN | apply Kd.R_drew)); exact HO_12.out) gb126 (Nat.le_of_eq hg.symm)) hb); have n1_ := Aside0.mk (below_step (by repeat (first | (with_reducible first | exact HB.out | apply below_alloc | apply pw_below_drewN | apply below_drew1) | exact HB.out)) hb); have n2_ := Aside0.mk (hbox); have n3_ := Aside0.mk ((by rw [hg]; exact (below_size (by repeat (first | (with_reducible first | exact HB.out | apply below_alloc | apply pw_below_drewN | apply below_drew1) | exact HB.out))) : w.heap.size ≤ gb126)); have n4_ := Aside0.mk ((by rw [hg]; exact (below_size (by repeat (first | (with_reducible first | exact HB.out | apply below_alloc | apply pw_below_drewN | apply below_drew1) | exact HB.out))) : w.heap.size ≤ gb126)); clear HO_12; clear HB; have HO_12 := n0_; have HB := n1_; have BK126 := n2_; have GW126 := n3_; have GE126 := n4_; clear n0_ n1_ n2_ n3_ n4_; clear hb hbox hg; have hcz15_0 : w14.cell? ⟨gb126, 0, none⟩ = some (.int .i64 0) := (blk_cell BK126.out 0).trans rfl; have hcz15_1 : w14.cell? ⟨gb126, 1, none⟩ = some (.int .i64 0) := (blk_cell BK126.out 1).trans rfl; have hfz15_0 := blk_frozen BK126.out 0; have hfz15_1 := blk_frozen BK126.out 1))
        go_roundg k1
        case measure => have := HK1.out; omega
        case rel => exact ⟨(wrap64 (x14_1 + 1)), (by first | rfl | (simp; done) | (simp [*]; done)), H', ⟨by have := HK1.out; omega⟩, ⟨by (with_reducible repeat (first | apply Kd.R_alloc | apply Kd.R_drewN | apply Kd.R_drew)); exact Kd.R_mono (Kd.R_far (p := ⟨gb126, 1, none⟩) (Kd.R_far (p := ⟨gb126, 0, none⟩) (Kd.R_mono HO_12.out (fun k_ hk => (⟨hk, hk.2⟩ : _ ∧ k_ ≠ gb126))) (fun _ hk => hk.2) (.int .i64 ((rd_T36 t122 x14_1).f0))) (fun _ hk => hk.2) (.int .i64 ((rd_T36 t122 x14_1).f1))) (fun _ hk => trivial)⟩, ⟨by repeat (first | (with_reducible first | exact HB.out | apply below_alloc | apply pw_below_drewN | apply below_drew1 | refine below_set ?_ GE126.out) | exact HB.out)⟩⟩
      ·rw [if_neg c10] at H
       exact absurd H (by simp)
     ·rw [if_neg c9] at H
      exact absurd H (by simp)
    ·rw [if_neg c8] at H
     have c8b0 : decide (x14_1 < (t122.length : Int)) = false := decide_eq_false c8
     clear c8
     simp only [Option.some.injEq, Prod.mk.injEq] at H
     obtain ⟨rfl, rfl⟩ := H
     go_wp2
     go_ret2
     exact ⟨by first | rfl | (simp [errW_none, errW_some] <;> rfl) | (simp [*, errW_none, errW_some] <;> rfl), by repeat (first | (with_reducible first | exact HB.out | apply below_alloc | apply pw_below_drewN | apply below_drew1) | exact HB.out)⟩

end Go.Proofs.YtijbkiajhicooaaDoor.PW

