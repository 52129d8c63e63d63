-- Written by merge.py, a program of this session's: PWx23 PWx24 PWx25 PWx26 PWx27 PWx28 PWx29 PWx30
import Derived.Lib.OthersKept
import Derived.Maps.OwnIn
import Derived.RangeFuncNested
import Derived.RangeFuncLeaves
import Derived.Shelf.Abstract
import Derived.Shelf.RegionOpen
import Derived.OwnWalkIn
import Derived.TacticsInMore
import Derived.LoopNIn
import Derived.LoopIn
import Derived.Test.YtijbkiajhicooaaDoorWordsOwnM2
import Derived.Test.YtijbkiajhicooaaDoorWordsOwnM3
namespace Go.Proofs.YtijbkiajhicooaaDoor.PW
open Go.RowKit Go.Proofs.YtijbkiajhicooaaDoorW.PrintWords Go.Proofs.YtijbkiajhicooaaDoorW.PrintLast Go.Proofs.YtijbkiajhicooaaDoorW.PrintMore
attribute [local go_sem] max2_int min2_int max_two min_two max_three min_three max_four min_four   -- for this text's walks alone
set_option linter.unusedVariables false
set_option linter.unusedSimpArgs false

/-- A rune's length in units. -/
def unitsLen (r : Int) : Int := if (0 ≤ r ∧ r < 55296) ∨ (57343 < r ∧ r ≤ 1114111) then (if r > 65535 then 2 else 1) else 0
theorem unitsLen_of (r : Int) : units_Len.f 3 r = some (unitsLen r) := by
 unfold units_Len.f utf8_ValidRune.f unitsLen
 simp only [utf8_ValidRune.j0]
 repeat' split
 all_goals first | rfl | (exfalso; simp_all; omega) | (simp_all <;> omega)
/-- An edge by the rulers. -/
abbrev At3 := Int × Int × Int
def addAt (a : At3) (x : PStep) : At3 := (wrap64 (a.1 + x.2.2.1), wrap64 (a.2.1 + 1), wrap64 (a.2.2 + unitsLen x.2.1))
def edgesFrom : At3 → List PStep → List At3
 | _, [] => []
 | a, x :: l => addAt a x :: edgesFrom (addAt a x) l
def allEdges (s : ByteArray) : List At3 := (0, 0, 0) :: edgesFrom (0, 0, 0) (allSteps s)
abbrev encAt (x : At3) : Array Value := #[.agg #[.int .i64 0, .int .i64 x.1, .int .i64 x.2.1, .int .i64 x.2.2]]
def sizeOf3 (l0 : List Int) : At3 := (allSteps (strOfNums l0)).foldl addAt (0, 0, 0)
def rule_size.f (l0 : List Int) (a1 : Int) : Option Int := if l0.length ≤ 4398046511104 then (if a1 = 2 then some (sizeOf3 l0).2.1 else if a1 = 3 then some (sizeOf3 l0).2.2 else none) else none
theorem blk_put4 {W : World} {g : Nat} {t : TypeId} {a0 a1 a2 a3 : Value} (x0 x1 x2 x3 : Value) (h : W.heap[g]? = some (.cells #[a0, a1, a2, a3] t (0, 0))) :
  ((((W.setCell ⟨g, 0, none⟩ x0).setCell ⟨g, 1, none⟩ x1).setCell ⟨g, 2, none⟩ x2).setCell ⟨g, 3, none⟩ x3).heap[g]? = some (.cells #[x0, x1, x2, x3] t (0, 0)) :=
 blk_put (blk_put (blk_put (blk_put h 0 x0 (cs' := #[x0, a1, a2, a3]) rfl) 1 x1 (cs' := #[x0, x1, a2, a3]) rfl) 2 x2 (cs' := #[x0, x1, x2, a3]) rfl) 3 x3 rfl
theorem below_put4 {w W : World} {g n : Nat} (h : Below n w W) (hg : n ≤ g) (x0 x1 x2 x3 : Value) :
  Below n w ((((W.setCell ⟨g, 0, none⟩ x0).setCell ⟨g, 1, none⟩ x1).setCell ⟨g, 2, none⟩ x2).setCell ⟨g, 3, none⟩ x3) :=
 (((h.setCell (p := ⟨g, 0, none⟩) hg _).setCell (p := ⟨g, 1, none⟩) hg _).setCell (p := ⟨g, 2, none⟩) hg _).setCell (p := ⟨g, 3, none⟩) hg _
attribute [local go_sem] Oper.semAt_some
set_option maxRecDepth 100000 in
theorem rule_counts.calls (n : Nat) (h1 : 1 ≤ n) (r wd : Int) (b : Bool) (w : World) :
  CallsIn Fence.wide n Tryd.prog 115 #[.agg #[.int .i32 r, .int .i64 wd, .bool b]] w fun e w' => e = .returned (.agg #[.int .i64 0, .int .i64 wd, .int .i64 1, .int .i64 (unitsLen r)]) ∧ Below w.heap.size w w' := by
 refine callsIn_of_wp Tryd.func115 rfl trivial ?_ rfl
 have hu := Tryd.underlying23
 have hu2 := Tryd.underlying135
 have U := Aside0.mk (unitsLen_of r)
 have hmx : Tryd.prog.follows .mixedOrders = true := by kernel_rfl
 simp only [Tryd.ntmps115, List.size_toArray, List.length_cons, List.length_nil, Nat.reduceAdd, Nat.reduceSub, Array.replicate_succ, Array.replicate_zero, List.push_toArray, List.append_toArray, List.nil_append, List.cons_append]
 gi_wp2
 gi_region_with_o (refine ⟨trivial, ?_⟩; gi_at_call 117; refine (callsIn_wide.2 (units_Len.calls 3 r _ _ U.out)).mono ?_; rintro e w' ⟨rfl, ⟨nd, rfl⟩⟩)
 all_goals gi_wp2
 all_goals refine bodyPost_ret (results_cell_row rfl _ _ (w.heap.size + 1) 135 #[.int .i64 0, .int .i64 wd, .int .i64 1, .int .i64 (unitsLen r)] (0, 0) _ rfl (blk_put4 _ _ _ _ (blk_drewN (by have := blk_new (w.alloc (.cells #[.int .i32 r, .int .i64 wd, .bool b] 23)) (.cells #[.int .i64 0, .int .i64 0, .int .i64 0, .int .i64 0] 135); rwa [World.size_alloc] at this) _)) Tryd.underlying135 rfl (by kernel_rfl)) rfl ?_
 all_goals exact ⟨rfl, below_put4 (pw_below_drewN (((Below.refl _ w).alloc (Nat.le_refl _) _).alloc (by simp) _) _) (by omega) _ _ _ _⟩
def AbidesAll {β : Type} (B : Nat) (J : β → World → Prop) : Prop := ∀ s W W' row, J s W → W.grownBy W' row → (∀ r, row = some r → B ≤ r) → J s W'
def SeqAny {α : Type} (F : Fence) (n : Nat) (P : Program) (g : Nat) (lb : Array Value) (encs : α → Array Value) (Kp : Nat → World → World → Prop) (S : List α → Prop) (w : World) : Prop :=
 ∀ (l : Nat) (J : List α → World → Prop) (W : World), Below w.heap.size w W → w.heap.size ≤ l → l < W.heap.size → AbidesAll W.heap.size J →
  (∀ pre x W1, J pre W1 → YieldAt F (n - 1) P l (encs x) W1 fun e W' => e = .returned (.bool true) ∧ J (pre ++ [x]) W' ∧ Kp l W1 W') → J [] W →
  CallsIn F n P g (#[.func (.yield l) #[] #[]] ++ lb) W fun e W' => (∃ v, e = .returned v) ∧ ∃ xs, S xs ∧ J xs W'
theorem AbidesAll.putObj {β : Type} {B : Nat} {I : β → World → Prop} (h : AbidesAll B I) {s : β} {W : World} {l : Nat} (o' : Obj) (hs : I s W) (hB : B ≤ l) : I s (W.putObj l o') :=
 h s W _ (some l) hs (grownBy_putObj' W l o') (fun r e => by cases e; exact hB)
theorem AbidesAll.alloc {β : Type} {B : Nat} {I : β → World → Prop} (h : AbidesAll B I) {s : β} {W : World} (o : Obj) (hs : I s W) : I s (W.alloc o) :=
 h s W _ none hs (World.grownBy_alloc W o none) (fun r e => by cases e)
theorem wpIn_rangeFunc_any {α : Type} {F : Fence} {n : Nat} {P : Program} {w : World} {g : Operand} {ps : Array Tmp} {assign body : Code} {Q : Exit → Act → World → Prop} {a : Act}
  (hro : F.round = none) (h1 : 1 ≤ n) {gf : Nat} {lb : Array Value} (hg : a.eval g = .func (.func gf) #[] lb) (hFg : F.fn gf) (eg : ∀ args w, (callFunc gf args).run P w = .ok (.enter gf args) w)
  {encs : α → Array Value} {Kp : Nat → World → World → Prop} {S : List α → Prop} {w0 : World} (hseq : SeqAny F (n - 1) P gf lb encs Kp S w0)
  (hKt : ∀ {l : Nat} {A B C : World}, Kp l A B → Kp l B C → Kp l A C) (hKb : ∀ (W : World) (l : Nat) (o o' : Obj), w.heap.size ≤ l → W.heap[l]? = some o → o.isCells = false → o.isWalk = false → Kp l W (W.putObj l o'))
  (hb0 : Below w0.heap.size w0 w) (hps : ∀ x, (encs x).size = ps.size)
  (I : List α → World → Prop) (hI : AbidesAll w.heap.size I) (h0 : I [] w) (Ax : α → Act → World → Prop) (hAx : ∀ x a', OwnFrom w.heap.size (fun (_ : Unit) W => Ax x a' W))
  (hassign : ∀ (l : Nat) (pre : List α) (x : α) (W : World) (K : Act → World → Prop), I pre W → (∀ a' W', KeepsFrom w.heap.size W W' → Kp l W W' → I pre W' → Ax x a' W' → K a' W') →
   assign.wpIn (F.inRound l) (n - 1 - 1) P (Exit.then K (fun _ _ _ => False)) { tmps := (ps.zip (encs x)).foldl (fun t (p, v) => t.setIfInBounds p v) a.tmps, defers := [] } W)
  (hbody : ∀ (l : Nat) (pre : List α) (x : α) (a' : Act) (W : World), I pre W → Ax x a' W → body.wpIn (F.inRound l) (n - 1 - 1) P (fun e _ W3 => e = .normal ∧ KeepsFrom w.heap.size W W3 ∧ Kp l W W3 ∧ I (pre ++ [x]) W3) a' W)
  (hdone : ∀ (D : Nat) (xs : List α) (W : World), w.heap.size ≤ D → S xs → I xs W → W.heap[D]? = some (.deferred (some [])) → Q .normal { a with defers := { target := .collected D, args := #[] } :: a.defers } W) :
  (Code.rangeFunc g ps assign body).wpIn F n P Q a w := by
 refine wpIn_rangeFunc ?_
 intro fn hfn
 rw [hro]
 obtain ⟨rec, hrec⟩ : ∃ rec : LoopState → Option Code → Loop, rec = fun st pe => { state := st, pending := pe, fn, tmps := a.tmps, params := ps, assign, body, defers := w.heap.size } := ⟨_, rfl⟩
 obtain ⟨W1, hW1⟩ : ∃ W1, (w.alloc (.deferred (some []))).alloc (.loop (rec .ready none)) = W1 := ⟨_, rfl⟩
 have hs1 : W1.heap.size = w.heap.size + 2 := by rw [← hW1]; simp
 have hL1 : W1.heap[w.heap.size + 1]? = some (.loop (rec .ready none)) := by
  rw [← hW1]; have := World.alloc_heap_new (w.alloc (.deferred (some []))) (.loop (rec .ready none)); rwa [World.size_alloc] at this
 have hK1 : W1.heap[w.heap.size]? = some (.deferred (some [])) := by
  rw [← hW1]; exact (Below.heap_alloc _ _ _ (by simp)).trans (World.alloc_heap_new w _)
 have hI1 : I [] W1 := by rw [← hW1]; exact hI.alloc _ (hI.alloc _ h0)
 have hb1 : Below w0.heap.size w0 W1 := by
  rw [← hW1]; exact hb0.trans ((((Below.refl _ w).alloc (Nat.le_refl _) _).alloc (by simp) _).mono hb0.size)
 refine ⟨w.heap.size + 1, [{ target := .collected w.heap.size, args := #[] }], W1, { target := .fn (.func gf) lb, args := #[.func (.yield (w.heap.size + 1)) #[] #[]] }, W1, gf,
  #[.func (.yield (w.heap.size + 1)) #[] #[]] ++ lb, W1, ?_, ?_, ?_, ?_, fun _ => h1, ?_⟩
 ·rw [← hW1, hrec]; exact run_enterLoop_outer _ _ _ _ _
 ·simp only [resolve, hg]
  simp [go_sem]
 ·intro f' hf'; simp [Target.leads] at hf'; subst hf'; exact hFg
 ·simp [invoke, go_sem, eg]
 ·refine (hseq (w.heap.size + 1) (fun pre W => I pre W ∧ W.heap[w.heap.size + 1]? = some (.loop (rec .ready none)) ∧ W.heap[w.heap.size]? = some (.deferred (some []))) W1 hb1 (Nat.le_trans hb0.size (by omega)) (by omega)
   (fun s A B row hs hg' hr => ⟨hI s A B row hs.1 hg' (fun r e => by have := hr r e; omega),
    (hg'.block _ (Array.getElem?_eq_some_iff.1 hs.2.1).1 (fun e => by have := hr _ e.symm; omega)).trans hs.2.1,
    (hg'.block _ (Array.getElem?_eq_some_iff.1 hs.2.2).1 (fun e => by have := hr _ e.symm; omega)).trans hs.2.2⟩) ?_ ⟨hI1, hL1, hK1⟩).mono ?_
  ·rintro pre x W ⟨hi, hl, hk⟩
   have hy := run_yield (P := P) (args := encs x) hl (by rw [hrec]; exact hps x)
   rw [hrec] at hy
   refine ⟨fn, _, assign, body, hy, roundIn_of_wpIn hfn (hassign _ pre x W _ hi ?_)⟩
   intro a' Wa hkfa hkpa hia hax
   have hl' := hkfa.same _ _ (by omega) hl rfl
   have hk' := hkfa.same _ _ (Nat.le_refl _) hk rfl
   have hlt : w.heap.size + 1 < Wa.heap.size := (Array.getElem?_eq_some_iff.1 hl').1
   refine ⟨_, run_beginRound hl' (by rw [hrec]), ?_⟩
   obtain ⟨W2, hW2⟩ : ∃ W2, Wa.putObj (w.heap.size + 1) (.loop { rec .ready none with state := .busy }) = W2 := ⟨_, rfl⟩
   have hl2 : W2.heap[w.heap.size + 1]? = some (.loop { rec .ready none with state := .busy }) := by rw [← hW2]; exact World.putObj_heap_same hlt
   have hk2 : W2.heap[w.heap.size]? = some (.deferred (some [])) := by rw [← hW2]; exact (World.putObj_heap_other (by omega)).trans hk'
   have hw2 : Kp (w.heap.size + 1) Wa W2 := by rw [← hW2]; exact hKb _ _ _ _ (by omega) hl' rfl rfl
   have hi2 : I pre W2 := by rw [← hW2]; exact hI.putObj _ hia (by omega)
   have hx2 : Ax x a' W2 := by rw [← hW2]; exact (hAx x a').putObj (s := ()) _ hax (by omega) hl' rfl
   rw [hW2]
   refine wpIn_mono (hbody _ pre x a' _ hi2 hx2) ?_
   rintro e a3 W3 ⟨rfl, hk3, hkp3, hi3⟩
   have hl3 := hk3.same _ _ (by omega) hl2 rfl
   have hr := run_endRound (P := P) none hl3
   rw [hrec] at hr hl3
   refine ⟨_, _, hr, ⟨rfl, ⟨hI.putObj _ hi3 (by omega), ?_, (World.putObj_heap_other (by omega)).trans (hk3.same _ _ (Nat.le_refl _) hk2 rfl)⟩, hKt hkpa (hKt (hKt hw2 hkp3) (hKb _ _ _ _ (by omega) hl3 rfl rfl))⟩⟩
   rw [hrec]; exact World.putObj_heap_same (Array.getElem?_eq_some_iff.1 hl3).1
  ·rintro e W2 ⟨⟨v, rfl⟩, ⟨xs, hS, hi, hl, hk⟩⟩
   exact ⟨none, _, by have := run_endLoop (P := P) hl (by rw [hrec]; simp); rw [hrec] at this; exact this, hdone _ xs _ (Nat.le_refl _) hS (hI.putObj _ hi (by omega)) ((World.putObj_heap_other (by omega)).trans hk)⟩

theorem roundIn_any {n m l l' : Nat} {P : Program} {f : FuncId} {tmps : Array Value} {assign body : Code} {w : World} {R : Ending → World → Prop} (h : RoundIn Fence.wide n P l f tmps assign body w R) : RoundIn (Fence.wide.inRound l') m P l f tmps assign body w R :=
 ⟨h.1, fun c cs _ => h.2 c cs (room_wide _)⟩
theorem roundIn_w {n m l : Nat} {P : Program} {f : FuncId} {tmps : Array Value} {assign body : Code} {w : World} {R : Ending → World → Prop} (h : RoundIn Fence.wide n P l f tmps assign body w R) : RoundIn Fence.wide m P l f tmps assign body w R :=
 ⟨h.1, fun c cs _ => h.2 c cs (room_wide _)⟩
/-- What a round of a loop over the edges leaves: all below n₀, what is walked over, and all but the loop's record and the block Bn. -/
structure KpBut (n₀ Bn l : Nat) (W W' : World) : Prop where
 below : Below n₀ W W'
 walks : KeepsWalks W W'
 same : ∀ (k : Nat) (o : Obj), k ≠ Bn → k ≠ l → W.heap[k]? = some o → W'.heap[k]? = some o
theorem KpBut.t {n₀ Bn l : Nat} {A B C : World} (h : KpBut n₀ Bn l A B) (k : KpBut n₀ Bn l B C) : KpBut n₀ Bn l A C := ⟨h.below.trans k.below, h.walks.trans k.walks, fun i o h1 h2 h3 => k.same i o h1 h2 (h.same i o h1 h2 h3)⟩
theorem foldEdges (l : List PStep) (x : PStep) : (0, 0, 0) :: edgesFrom (0, 0, 0) (l ++ [x]) = ((0, 0, 0) :: edgesFrom (0, 0, 0) l) ++ [addAt (l.foldl addAt (0, 0, 0)) x] := by
 have : ∀ (l : List PStep) (a : At3), edgesFrom a (l ++ [x]) = edgesFrom a l ++ [addAt (l.foldl addAt a) x] := by
  intro l
  induction l with
  | nil => intro a; rfl
  | cons y l ih => intro a; simp only [List.cons_append, edgesFrom, ih, List.foldl_cons]
 rw [this]
 rfl
/-- How a round over the steps is left, within the edges. -/
def EdgesPost (B : Nat) (Kp : World → World → Prop) (I : World → Prop) (W : World) : Exit → Act → World → Prop := fun e _ W2 => e = .normal ∧ KeepsFrom B W W2 ∧ Kp W W2 ∧ I W2
theorem grown_set (W : World) (a : Addr) (v : Value) : W.grownBy (W.setCell a v) (some a.block) :=
 ⟨rfl, rfl, rfl, (KeepsWalks.setCell W _ v).size, fun k _ hk => Below.heap_setCell _ _ _ k (fun e => hk (by rw [e]))⟩
theorem grown_at (W : World) (g i : Nat) (v : Value) : W.grownBy (W.setCell ⟨g, i, none⟩ v) (some g) := grown_set W ⟨g, i, none⟩ v
theorem grown_put4 (W : World) (g : Nat) (x0 x1 x2 x3 : Value) : W.grownBy ((((W.setCell ⟨g, 0, none⟩ x0).setCell ⟨g, 1, none⟩ x1).setCell ⟨g, 2, none⟩ x2).setCell ⟨g, 3, none⟩ x3) (some g) :=
 World.grownBy.trans (World.grownBy.trans (World.grownBy.trans (grown_at W g 0 x0) (grown_at _ g 1 x1)) (grown_at _ g 2 x2)) (grown_at _ g 3 x3)
theorem others_put4 (W : World) (g : Nat) (x0 x1 x2 x3 : Value) : KeepsOthers W ((((W.setCell ⟨g, 0, none⟩ x0).setCell ⟨g, 1, none⟩ x1).setCell ⟨g, 2, none⟩ x2).setCell ⟨g, 3, none⟩ x3) :=
 (((KeepsOthers.setCell W _ x0).trans (KeepsOthers.setCell _ _ x1)).trans (KeepsOthers.setCell _ _ x2)).trans (KeepsOthers.setCell _ _ x3)
set_option maxRecDepth 100000 in
set_option maxHeartbeats 4000000 in
theorem rule_edges1.any (n : Nat) (A0 : Option Addr) (c0 : Nat) (l0 : List Int) (w : World) (hr0 : Kd.C (Kd.int .u8) w A0 l0.length l0) (hc0 : l0.length ≤ c0) (hlim : l0.length ≤ 4398046511104) (hL : LaidBad w) (wS : World) (hwS : Below w.heap.size w wS)
  (Bb Bn : Nat) (hBb : wS.heap[Bb]? = some (.cells #[.slice A0 l0.length c0] 29 (0, 0))) (hne : Bb ≠ Bn) (hBn : Bn < wS.heap.size) :
  SeqAny Fence.wide n Tryd.prog 114 #[.pointer (some ⟨Bb, 0, none⟩)] encAt (KpBut w.heap.size Bn) (fun xs => xs = allEdges (strOfNums l0)) wS := by
 intro l J W hW hlS hl hJ hY h0
 refine callsIn_wide.2 ((callsIn_wide (n := 10)).1 ?_)
 refine callsIn_of_wp_marks Tryd.func114 rfl trivial ?_ rfl
 have hbW := Below.trans hwS (hW.mono hwS.size)
 have hbb : W.heap[Bb]? = some (.cells #[.slice A0 l0.length c0] 29 (0, 0)) := blk_below hBb hW
 have hBnW : Bn < W.heap.size := Nat.lt_of_lt_of_le hBn hW.size
 have hu := Tryd.underlying135
 have hu2 := Tryd.underlying23
 simp only [Tryd.ntmps114, List.size_toArray, List.length_cons, List.length_nil, Nat.reduceAdd, Nat.reduceSub, Array.replicate_succ, Array.replicate_zero, List.push_toArray, List.append_toArray, List.nil_append, List.cons_append]
 obtain ⟨W1, hW1⟩ : ∃ W1, (W.alloc (.cells #[.func (.yield l) #[] #[]] 176)).alloc (.cells #[.int .i64 0, .int .i64 0, .int .i64 0, .int .i64 0] 135) = W1 := ⟨_, rfl⟩
 have hy1 : W1.heap[W.heap.size]? = some (.cells #[.func (.yield l) #[] #[]] 176 (0, 0)) := by rw [← hW1]; exact blk_alloc (blk_new W _) _
 have ha1 : W1.heap[W.heap.size + 1]? = some (.cells #[.int .i64 0, .int .i64 0, .int .i64 0, .int .i64 0] 135 (0, 0)) := by
  rw [← hW1]; have := blk_new (W.alloc (.cells #[.func (.yield l) #[] #[]] 176)) (.cells #[.int .i64 0, .int .i64 0, .int .i64 0, .int .i64 0] 135); rwa [World.size_alloc] at this
 have hb1 : Below W.heap.size W W1 := by rw [← hW1]; exact ((Below.refl _ W).alloc (Nat.le_refl _) _).alloc (by simp) _
 have hs1 : W1.heap.size = W.heap.size + 2 := by rw [← hW1]; simp
 have hJ1 : J [] W1 := by rw [← hW1]; exact hJ.alloc _ (hJ.alloc _ h0)
 obtain ⟨fn, tmps, assign, body, hy, hR⟩ := hY [] (0, 0, 0) W1 hJ1
 have cy := blk_cell hy1 0
 have ca0 := blk_cell ha1 0
 have ca1 := blk_cell ha1 1
 have ca2 := blk_cell ha1 2
 have ca3 := blk_cell ha1 3
 gi_wp2
 refine (roundIn_w hR).mono ?_
 rintro e W3 ⟨rfl, hJ3, hk3⟩
 have hy3 := hk3.same _ _ (by omega) (by omega) hy1
 have ha3 := hk3.same _ _ (by omega) (by omega) ha1
 have hbb3 := hk3.same Bb _ hne (by have := blk_lt hBb; omega) (blk_below hbb hb1)
 have hb3 : Below w.heap.size w W3 := (hbW.trans (hb1.mono hbW.size)).trans hk3.below
 have hsz3 : W.heap.size + 2 ≤ W3.heap.size := by have := hk3.below.size; omega
 clear hy hR hW1 cy ca0 ca1 ca2 ca3 hy1 ha1 hJ1 hb1
 have cb := blk_cell hbb3 0
 have HC3 := Aside0.mk (Kd.C_below hr0 hb3)
 have HC0 := Aside0.mk hr0
 have HY := Aside0.mk hY
 clear hr0 h0 hY
 gi_wp2_with (refine ⟨trivial, ?_⟩; gi_at_call 47; refine (callsIn_wide.2 (step_All.calls A0 c0 l0 _ HC3.out hc0)).mono ?_; rintro e w' ⟨rfl, rfl⟩)
 obtain ⟨W4, hW4⟩ : ∃ W4, W3.alloc (.cells #[.string (strOfNums l0)] 9) = W4 := ⟨_, rfl⟩
 have bs4 : W4.heap[W3.heap.size]? = some (.cells #[.string (strOfNums l0)] 9 (0, 0)) := by rw [← hW4]; exact blk_new W3 _
 have hy4 : W4.heap[W.heap.size]? = some (.cells #[.func (.yield l) #[] #[]] 176 (0, 0)) := by rw [← hW4]; exact blk_alloc hy3 _
 have ha4 : W4.heap[W.heap.size + 1]? = some (.cells #[.int .i64 0, .int .i64 0, .int .i64 0, .int .i64 0] 135 (0, 0)) := by rw [← hW4]; exact blk_alloc ha3 _
 have hb34 : Below W3.heap.size W3 W4 := by rw [← hW4]; exact (Below.refl _ W3).alloc (Nat.le_refl _) _
 have hb4 : Below w.heap.size w W4 := hb3.trans (hb34.mono hb3.size)
 have hs4 : W4.heap.size = W3.heap.size + 1 := by rw [← hW4]; simp
 have hJ4 : J [(0, 0, 0)] W4 := by rw [← hW4]; exact hJ.alloc _ hJ3
 have hL4 := laid_below hL hb4
 have hpos : 0 < w.heap.size := laid_lt hL
 have hns : (strOfNums l0).size ≤ 4398046511104 := by rw [strOfNums_size]; exact hlim
 rw [hW4]
 clear hW4 hy3 ha3 hb34 hJ3 HC3 cb
 refine wpIn_rangeFunc_ownH rfl (by decide) (gf := 72) (lb := #[.pointer (some ⟨W3.heap.size, 0, none⟩)]) rfl trivial (enters_of Tryd.func72 (by kernel_rfl) rfl)
  (step_All1.stops (10 - 1) W3.heap.size w.heap.size (by decide) (strOfNums l0) (by omega) hpos W4 bs4 hb4.size hL4) KpBox.t (KpBox.b hb4.size (by omega)) (Below.refl _ _) (fun _ => rfl)
  (fun pre V => ((Below w.heap.size w V ∧ V.heap[W3.heap.size]? = some (.cells #[.string (strOfNums l0)] 9 (0, 0))) ∧ V.heap[W.heap.size]? = some (.cells #[.func (.yield l) #[] #[]] 176 (0, 0)) ∧
   V.heap[W.heap.size + 1]? = some (.cells #[.int .i64 0, .int .i64 (pre.foldl addAt (0, 0, 0)).1, .int .i64 (pre.foldl addAt (0, 0, 0)).2.1, .int .i64 (pre.foldl addAt (0, 0, 0)).2.2] 135 (0, 0))) ∧ J ((0, 0, 0) :: edgesFrom (0, 0, 0) pre) V)
  (fun _ _ _ => False)
  (fun s X Y row hs hg hr => ⟨⟨⟨ownFrom_below (Nat.le_refl _) (Nat.le_trans hbW.size (by omega)) s X Y row hs.1.1.1 hg hr, blk_abides hs.1.1.2 hg (fun r e => (hr r e).2)⟩, blk_abides hs.1.2.1 hg (fun r e => (hr r e).2), blk_abides hs.1.2.2 hg (fun r e => (hr r e).2)⟩,
   hJ _ X Y row hs.2 hg (fun r e => by have := (hr r e).1; omega)⟩)
  (fun _ _ _ _ _ hs _ _ => hs)
  ⟨⟨⟨hb4, bs4⟩, hy4, ha4⟩, hJ4⟩
  (fun x a' V => ∃ Bx, W4.heap.size ≤ Bx ∧ V.heap[Bx]? = some (.cells #[.int .i32 x.2.1, .int .i64 x.2.2.1, .bool x.2.2.2] 23 (0, 0)) ∧ a' = { tmps := #[.func (.yield l) #[] #[], .pointer (some ⟨Bb, 0, none⟩), .pointer (some ⟨W.heap.size, 0, none⟩), .pointer (some ⟨W.heap.size + 1, 0, none⟩), undef, .pointer (some ⟨Bx, 0, none⟩), undef, undef, .func (.yield l) #[] #[], .agg #[.int .i64 0, .int .i64 0, .int .i64 0, .int .i64 0], .bool true, .bool false, .slice A0 l0.length c0, .func (.func 72) #[] #[.pointer (some ⟨W3.heap.size, 0, none⟩)], .int .i64 x.1, .agg #[.int .i32 x.2.1, .int .i64 x.2.2.1, .bool x.2.2.2], undef, undef, undef, undef, undef, undef, undef, undef, undef, undef, undef, undef, undef, undef, undef, undef, undef], defers := [] })
  (fun x a' _ X Y row hs hg hr => by obtain ⟨Bx, h1, h2, h3⟩ := hs; exact ⟨Bx, h1, blk_abides h2 hg (fun r e => (hr r e).2), h3⟩)
  ?assign ?body ?done ?stop
 case assign =>
  rintro l' pre x V K ⟨⟨⟨hB, hbs⟩, hy, ha⟩, hj⟩ hK
  gi_wp2
  have hlt := blk_lt hbs
  exact hK _ _ ((KeepsOthers.alloc _ _).from _) (KpBox.of ((Below.refl _ V).alloc hB.size _) ((blk_alloc hbs _).trans hbs.symm) (KeepsOthers.alloc _ _)) ⟨⟨⟨hB.alloc hB.size _, blk_alloc hbs _⟩, blk_alloc hy _, blk_alloc ha _⟩, hJ.alloc _ hj⟩ ⟨V.heap.size, by omega, blk_new V _, rfl⟩
 case body =>
  rintro l' pre x a' V hl' ⟨r, hr⟩ ⟨⟨⟨hB, hbs⟩, hy, ha⟩, hj⟩ ⟨Bx, hBx, hbx, rfl⟩ hlen
  obtain ⟨xp, xr, xw, xb⟩ := x
  dsimp only at hbx ⊢
  refine wpIn_mono (Q := EdgesPost W4.heap.size (KpBox w.heap.size W3.heap.size) (fun V2 => ((Below w.heap.size w V2 ∧ V2.heap[W3.heap.size]? = some (.cells #[.string (strOfNums l0)] 9 (0, 0))) ∧ V2.heap[W.heap.size]? = some (.cells #[.func (.yield l) #[] #[]] 176 (0, 0)) ∧
   V2.heap[W.heap.size + 1]? = some (.cells #[.int .i64 0, .int .i64 ((pre ++ [(xp, xr, xw, xb)]).foldl addAt (0, 0, 0)).1, .int .i64 ((pre ++ [(xp, xr, xw, xb)]).foldl addAt (0, 0, 0)).2.1, .int .i64 ((pre ++ [(xp, xr, xw, xb)]).foldl addAt (0, 0, 0)).2.2] 135 (0, 0))) ∧ J ((0, 0, 0) :: edgesFrom (0, 0, 0) (pre ++ [(xp, xr, xw, xb)])) V2) V) ?walk ?post
  case post =>
   rintro e a2 V2 ⟨rfl, g1, g2, g3⟩
   exact ⟨g1, g2, g3⟩
  rw [foldEdges, List.foldl_append, List.foldl_cons, List.foldl_nil]
  generalize (0, 0, 0) :: edgesFrom (0, 0, 0) pre = ys at *
  generalize pre.foldl addAt (0, 0, 0) = at0 at *
  obtain ⟨p0, p1, p2⟩ := at0
  have h1' : 1 ≤ 10 - 1 - 1 := by decide
  have cx0 := blk_cell hbx 0
  have cx1 := blk_cell hbx 1
  have cx2 := blk_cell hbx 2
  have hlt := blk_lt hbs
  gi_wp2_with (fail)
  refine ⟨trivial, ?_⟩
  gi_at_call 115
  refine (CallsIn.inRound l' (rule_counts.calls _ (by decide) xr xw xb V)).mono ?_
  rintro e Vk ⟨rfl, hbk⟩
  have hyk := blk_below hy hbk
  have hak := blk_below ha hbk
  have hbsk := blk_below hbs hbk
  have hjk : J ys Vk := hJ _ _ _ none hj (grown_of_below hbk none) (fun r e => by cases e)
  have hBk : Below w.heap.size w Vk := hB.trans (hbk.mono hB.size)
  have HOk := Aside0.mk (KeepsOthers.of_grownBy (grown_of_below hbk none) (fun j o hj _ => by cases hj))
  have HBK := Aside0.mk (hbk.mono hB.size)
  have HSS := Aside0.mk (hbsk.trans hbs.symm)
  clear hbk cx0 cx1 cx2 hbx hy ha hbs hj hr
  have cy := blk_cell hyk 0
  have ca0 := blk_cell hak 0
  have ca1 := blk_cell hak 1
  have ca2 := blk_cell hak 2
  have ca3 := blk_cell hak 3
  have fa0 := blk_frozen hak 0
  have fa1 := blk_frozen hak 1
  have fa2 := blk_frozen hak 2
  have fa3 := blk_frozen hak 3
  generalize hut : unitsLen xr = ut at *
  obtain ⟨V5, hV5⟩ : ∃ V5, ((((Vk.setCell ⟨W.heap.size + 1, 0, none⟩ (.int .i64 0)).setCell ⟨W.heap.size + 1, 1, none⟩ (.int .i64 (wrap64 (p0 + xw)))).setCell ⟨W.heap.size + 1, 2, none⟩ (.int .i64 (wrap64 (p1 + 1)))).setCell ⟨W.heap.size + 1, 3, none⟩ (.int .i64 (wrap64 (p2 + ut)))) = V5 := ⟨_, rfl⟩
  have ha5 : V5.heap[W.heap.size + 1]? = some (.cells #[.int .i64 0, .int .i64 (wrap64 (p0 + xw)), .int .i64 (wrap64 (p1 + 1)), .int .i64 (wrap64 (p2 + ut))] 135 (0, 0)) := by rw [← hV5]; exact blk_put4 _ _ _ _ hak
  have hg5 : Vk.grownBy V5 (some (W.heap.size + 1)) := by rw [← hV5]; exact grown_put4 _ _ _ _ _ _
  have ho5 : KeepsOthers Vk V5 := by rw [← hV5]; exact others_put4 _ _ _ _ _ _
  have hb5 : Below w.heap.size Vk V5 := by rw [← hV5]; exact below_put4 (Below.refl _ _) (by have := hbW.size; omega) _ _ _ _
  have hy5 := blk_grown hyk hg5 (by simp)
  have hbs5 := blk_grown hbsk hg5 (by simp; omega)
  have hj5 : J ys V5 := hJ _ _ _ _ hjk hg5 (fun r e => by cases e; omega)
  obtain ⟨fn, tmps, assign, body, hy, hR⟩ := HY.out ys (wrap64 (p0 + xw), wrap64 (p1 + 1), wrap64 (p2 + ut)) V5 hj5
  dsimp only [encAt] at hy
  have cy5 := blk_cell hy5 0
  have d0 := blk_cell ha5 0
  have d1 := blk_cell ha5 1
  have d2 := blk_cell ha5 2
  have d3 := blk_cell ha5 3
  gi_wp2
  have ix0 : ∀ (a b c d : Int) (w : World), (Instr.index 135 (.agg #[.int .i64 a, .int .i64 b, .int .i64 c, .int .i64 d]) (.int .i64 0)).run Tryd.prog w = .ok (.int .i64 a) w := by intros; kernel_rfl
  have ix1 : ∀ (a b c d : Int) (w : World), (Instr.index 135 (.agg #[.int .i64 a, .int .i64 b, .int .i64 c, .int .i64 d]) (.int .i64 1)).run Tryd.prog w = .ok (.int .i64 b) w := by intros; kernel_rfl
  have ix2 : ∀ (a b c d : Int) (w : World), (Instr.index 135 (.agg #[.int .i64 a, .int .i64 b, .int .i64 c, .int .i64 d]) (.int .i64 2)).run Tryd.prog w = .ok (.int .i64 c) w := by intros; kernel_rfl
  have ix3 : ∀ (a b c d : Int) (w : World), (Instr.index 135 (.agg #[.int .i64 a, .int .i64 b, .int .i64 c, .int .i64 d]) (.int .i64 3)).run Tryd.prog w = .ok (.int .i64 d) w := by intros; kernel_rfl
  refine wpIn_loop_rounds 5 ?_
  rw [roundsIn_succ]
  gi_wp2
  rw [roundsIn_succ]
  gi_wp2
  rw [roundsIn_succ]
  gi_wp2
  rw [roundsIn_succ]
  gi_wp2
  rw [roundsIn_succ]
  gi_wp2
  refine (roundIn_any hR).mono ?_
  rintro e V6 ⟨rfl, hj6, hk6⟩
  clear hy hR hV5 cy ca0 ca1 ca2 ca3 fa0 fa1 fa2 fa3 d0 d1 d2 d3 cy5
  gi_wp2
  have ha6 := hk6.same _ _ (by omega) (by omega) ha5
  have hy6 := hk6.same _ _ (by omega) (by omega) hy5
  have hbs6 := hk6.same _ _ (by omega) (by omega) hbs5
  refine ⟨rfl, ((HOk.out.trans ho5).from _).trans ⟨hk6.below.size, fun k o hk ho _ => hk6.same k o (by omega) (by omega) ho⟩, ⟨(HBK.out.trans hb5).trans hk6.below, ?_, (HOk.out.trans ho5).walks.trans hk6.walks⟩, ⟨⟨(hBk.trans hb5).trans hk6.below, hbs6⟩, hy6, ?_⟩, ?_⟩
  ·exact hbs6.trans (hbsk.symm.trans HSS.out)
  ·simpa [addAt, hut] using ha6
  ·simpa [addAt, hut] using hj6
 case done =>
  rintro D zs V hD rfl ⟨⟨⟨hB, hbs⟩, hy, ha⟩, hj⟩ hK
  gi_wp2
  refine ⟨by simp, .inl ⟨_, _, rfl, run_takeDeferred hK, ?_⟩⟩
  exact ⟨_, results_none rfl _ _ _, ⟨_, rfl⟩, _, rfl, hJ.putObj _ hj (show W.heap.size ≤ D by omega)⟩
 case stop =>
  rintro D c pre W _ _ h _
  exact h.elim

theorem rule_edges.calls (A0 : Option Addr) (c0 : Nat) (l0 : List Int) (w : World) :
  Calls Tryd.prog 108 #[.slice A0 l0.length c0] w fun e w' => e = .returned (.func (.func 114) #[] #[.pointer (some ⟨w.heap.size, 0, none⟩)]) ∧ w' = w.alloc (.cells #[.slice A0 l0.length c0] 29) := by
 go_enter Tryd.func108, Tryd.ntmps108
 go_wp2
 go_ret
 exact ⟨rfl, rfl⟩
theorem foldEdges_last (l : List PStep) : ∀ a : At3, ∃ ys, a :: edgesFrom a l = ys ++ [l.foldl addAt a] := by
 induction l with
 | nil => intro a; exact ⟨[], rfl⟩
 | cons x l ih =>
  intro a
  obtain ⟨ys, h⟩ := ih (addAt a x)
  exact ⟨a :: ys, by simp only [edgesFrom, h, List.cons_append, List.foldl_cons]⟩
def lastAt (l : List At3) : At3 := (l.getLast?).getD (0, 0, 0)
theorem lastAt_snoc (l : List At3) (x : At3) : lastAt (l ++ [x]) = x := by simp [lastAt]
theorem lastAt_all (l0 : List Int) : lastAt (allEdges (strOfNums l0)) = sizeOf3 l0 := by
 obtain ⟨ys, h⟩ := foldEdges_last (allSteps (strOfNums l0)) (0, 0, 0)
 unfold allEdges
 rw [h, lastAt_snoc]
 rfl
def SizePost (B Bn l : Nat) (n₀ : Nat) (I : World → Prop) (W : World) : Exit → Act → World → Prop := fun e _ W2 => e = .normal ∧ KeepsFrom B W W2 ∧ KpBut n₀ Bn l W W2 ∧ I W2

set_option maxRecDepth 100000 in
set_option maxHeartbeats 4000000 in
theorem rule_size.walk2 (A0 : Option Addr) (c0 : Nat) (l0 : List Int) (w : World) (hr0 : Kd.C (Kd.int .u8) w A0 l0.length l0) (hc0 : l0.length ≤ c0) (hL : LaidBad w) (hlim : l0.length ≤ 4398046511104) :
  Calls Tryd.prog 103 #[.slice A0 l0.length c0, .int .i64 2] w fun e w' => e = .returned (.int .i64 (sizeOf3 l0).2.1) ∧ Below w.heap.size w w' := by
 refine (callsIn_wide (n := 10)).1 ?_
 refine callsIn_of_wp_marks Tryd.func103 rfl trivial ?_ rfl
 have hu := Tryd.underlying135
 rw [← lastAt_all]
 simp only [Tryd.ntmps103, List.size_toArray, List.length_cons, List.length_nil, Nat.reduceAdd, Nat.reduceSub, Array.replicate_succ, Array.replicate_zero, List.push_toArray, List.append_toArray, List.nil_append, List.cons_append]
 gi_wp2_with (refine ⟨trivial, ?_⟩; gi_at_call 108; refine (callsIn_wide.2 (rule_edges.calls A0 c0 l0 _)).mono ?_; rintro e w' ⟨rfl, rfl⟩)
 obtain ⟨W1, hW1⟩ : ∃ W1, ((w.alloc (.cells #[.int .i64 2] 55)).alloc (.cells #[.int .i64 0] 3)).alloc (.cells #[.slice A0 l0.length c0] 29) = W1 := ⟨_, rfl⟩
 have hr1 : W1.heap[w.heap.size]? = some (.cells #[.int .i64 2] 55 (0, 0)) := by rw [← hW1]; exact blk_alloc (blk_alloc (blk_new w _) _) _
 have hn1 : W1.heap[w.heap.size + 1]? = some (.cells #[.int .i64 0] 3 (0, 0)) := by
  rw [← hW1]; have := blk_new (w.alloc (.cells #[.int .i64 2] 55)) (.cells #[.int .i64 0] 3); rw [World.size_alloc] at this; exact blk_alloc this _
 have hb1 : W1.heap[w.heap.size + 2]? = some (.cells #[.slice A0 l0.length c0] 29 (0, 0)) := by
  rw [← hW1]; have := blk_new ((w.alloc (.cells #[.int .i64 2] 55)).alloc (.cells #[.int .i64 0] 3)) (.cells #[.slice A0 l0.length c0] 29); rwa [World.size_alloc, World.size_alloc] at this
 have hB1 : Below w.heap.size w W1 := by rw [← hW1]; exact (((Below.refl _ w).alloc (Nat.le_refl _) _).alloc (by simp) _).alloc (by simp; omega) _
 have hs1 : W1.heap.size = w.heap.size + 3 := by rw [← hW1]; simp
 rw [show w.heap.size + 1 + 1 = w.heap.size + 2 from rfl]
 rw [hW1]
 clear hW1
 refine wpIn_rangeFunc_any rfl (by decide) (gf := 114) (lb := #[.pointer (some ⟨w.heap.size + 2, 0, none⟩)]) rfl trivial (enters_of Tryd.func114 (by kernel_rfl) rfl)
  (rule_edges1.any (10 - 1) A0 c0 l0 w hr0 hc0 hlim hL W1 hB1 (w.heap.size + 2) (w.heap.size + 1) hb1 (by omega) (by omega)) KpBut.t
  (fun V l o o' hl ho hc hw => ⟨belowK_b hB1.size V l o o' hl ho hc hw, KeepsWalks.putObj _ ho hw, fun k x _ hk hx => (World.putObj_heap_other hk).trans hx⟩) (Below.refl _ _) (fun _ => rfl)
  (fun pre V => (Below w.heap.size w V ∧ W1.heap.size ≤ V.heap.size) ∧ V.heap[w.heap.size]? = some (.cells #[.int .i64 2] 55 (0, 0)) ∧ V.heap[w.heap.size + 1]? = some (.cells #[.int .i64 (lastAt pre).2.1] 3 (0, 0)))
  (fun s X Y row hs hg hr => ⟨⟨hs.1.1.grown hg hs.1.1.size (fun r e => by have := hr r e; omega), Nat.le_trans hs.1.2 hg.size⟩, blk_grown hs.2.1 hg (fun e => by have := hr _ e.symm; omega), blk_grown hs.2.2 hg (fun e => by have := hr _ e.symm; omega)⟩)
  ⟨⟨hB1, Nat.le_refl _⟩, hr1, hn1⟩
  (fun x a' V => ∃ Bx, W1.heap.size ≤ Bx ∧ V.heap[Bx]? = some (.cells #[.int .i64 0, .int .i64 x.1, .int .i64 x.2.1, .int .i64 x.2.2] 135 (0, 0)) ∧ a' = { tmps := #[.slice A0 l0.length c0, .int .i64 2, undef, .pointer (some ⟨w.heap.size, 0, none⟩), .int .i64 0, .pointer (some ⟨w.heap.size + 1, 0, none⟩), .pointer (some ⟨Bx, 0, none⟩), .slice A0 l0.length c0, .func (.func 114) #[] #[.pointer (some ⟨w.heap.size + 2, 0, none⟩)], .agg #[.int .i64 0, .int .i64 x.1, .int .i64 x.2.1, .int .i64 x.2.2], undef, undef, undef, undef], defers := [] })
  (fun x a' _ X Y row hs hg hr => by obtain ⟨Bx, h1, h2, h3⟩ := hs; exact ⟨Bx, h1, blk_abides h2 hg (fun r e => (hr r e).2), h3⟩)
  ?assign ?body ?done
 case assign =>
  rintro l pre x V K ⟨⟨hB, hsv⟩, hr, hn⟩ hK
  gi_wp2
  exact hK _ _ ((KeepsOthers.alloc _ _).from _) ⟨(Below.refl _ V).alloc hB.size _, (KeepsOthers.alloc _ _).walks, fun k o _ _ h => (Below.heap_alloc _ _ _ (blk_lt h)).trans h⟩ ⟨⟨hB.alloc hB.size _, by simp; omega⟩, blk_alloc hr _, blk_alloc hn _⟩ ⟨V.heap.size, hsv, blk_new V _, rfl⟩
 case body =>
  rintro l pre x a' V ⟨⟨hB, hsv⟩, hr, hn⟩ ⟨Bx, hBx, hbx, rfl⟩
  rw [lastAt_snoc]
  obtain ⟨x1, x2, x3⟩ := x
  dsimp only at hbx ⊢
  have cr := blk_cell hr 0
  have fn0 := blk_frozen hn 0
  have cn0 := blk_cell hn 0
  have cx0 := blk_cell hbx 0
  have cx1 := blk_cell hbx 1
  have cx2 := blk_cell hbx 2
  have cx3 := blk_cell hbx 3
  refine wpIn_mono (Q := SizePost W1.heap.size (w.heap.size + 1) l w.heap.size (fun V2 => (Below w.heap.size w V2 ∧ W1.heap.size ≤ V2.heap.size) ∧ V2.heap[w.heap.size]? = some (.cells #[.int .i64 2] 55 (0, 0)) ∧ V2.heap[w.heap.size + 1]? = some (.cells #[.int .i64 x2] 3 (0, 0))) V) ?walk (fun e _ V2 h => h)
  gi_wp2
  refine ⟨rfl, (KeepsOthers.setCell _ _ _).from _, ⟨(Below.refl _ _).setCell (p := ⟨w.heap.size + 1, 0, none⟩) (Nat.le_succ _) _, KeepsWalks.setCell _ _ _, fun k o hk _ h => (Below.heap_setCell _ _ _ k hk).trans h⟩, ⟨hB.setCell (p := ⟨w.heap.size + 1, 0, none⟩) (Nat.le_succ _) _, by simpa using hsv⟩, blk_far hr (p := ⟨w.heap.size + 1, 0, none⟩) (by simp) _, blk_set hn 0 _⟩
 case done =>
  rintro D zs V hD rfl ⟨⟨hB, hsv⟩, hr, hn⟩ hK
  have cn := blk_cell hn 0
  gi_wp2
  refine ⟨by simp, .inl ⟨_, _, rfl, run_takeDeferred hK, ?_⟩⟩
  exact ⟨_, results_tmp rfl _ _ _, rfl, hB.trans (belowK_b (w := w) (Nat.le_refl _) V D _ _ (by omega) hK rfl rfl)⟩

set_option maxRecDepth 100000 in
set_option maxHeartbeats 4000000 in
theorem rule_size.walk3 (A0 : Option Addr) (c0 : Nat) (l0 : List Int) (w : World) (hr0 : Kd.C (Kd.int .u8) w A0 l0.length l0) (hc0 : l0.length ≤ c0) (hL : LaidBad w) (hlim : l0.length ≤ 4398046511104) :
  Calls Tryd.prog 103 #[.slice A0 l0.length c0, .int .i64 3] w fun e w' => e = .returned (.int .i64 (sizeOf3 l0).2.2) ∧ Below w.heap.size w w' := by
 refine (callsIn_wide (n := 10)).1 ?_
 refine callsIn_of_wp_marks Tryd.func103 rfl trivial ?_ rfl
 have hu := Tryd.underlying135
 rw [← lastAt_all]
 simp only [Tryd.ntmps103, List.size_toArray, List.length_cons, List.length_nil, Nat.reduceAdd, Nat.reduceSub, Array.replicate_succ, Array.replicate_zero, List.push_toArray, List.append_toArray, List.nil_append, List.cons_append]
 gi_wp2_with (refine ⟨trivial, ?_⟩; gi_at_call 108; refine (callsIn_wide.2 (rule_edges.calls A0 c0 l0 _)).mono ?_; rintro e w' ⟨rfl, rfl⟩)
 obtain ⟨W1, hW1⟩ : ∃ W1, ((w.alloc (.cells #[.int .i64 3] 55)).alloc (.cells #[.int .i64 0] 3)).alloc (.cells #[.slice A0 l0.length c0] 29) = W1 := ⟨_, rfl⟩
 have hr1 : W1.heap[w.heap.size]? = some (.cells #[.int .i64 3] 55 (0, 0)) := by rw [← hW1]; exact blk_alloc (blk_alloc (blk_new w _) _) _
 have hn1 : W1.heap[w.heap.size + 1]? = some (.cells #[.int .i64 0] 3 (0, 0)) := by
  rw [← hW1]; have := blk_new (w.alloc (.cells #[.int .i64 3] 55)) (.cells #[.int .i64 0] 3); rw [World.size_alloc] at this; exact blk_alloc this _
 have hb1 : W1.heap[w.heap.size + 2]? = some (.cells #[.slice A0 l0.length c0] 29 (0, 0)) := by
  rw [← hW1]; have := blk_new ((w.alloc (.cells #[.int .i64 3] 55)).alloc (.cells #[.int .i64 0] 3)) (.cells #[.slice A0 l0.length c0] 29); rwa [World.size_alloc, World.size_alloc] at this
 have hB1 : Below w.heap.size w W1 := by rw [← hW1]; exact (((Below.refl _ w).alloc (Nat.le_refl _) _).alloc (by simp) _).alloc (by simp; omega) _
 have hs1 : W1.heap.size = w.heap.size + 3 := by rw [← hW1]; simp
 rw [show w.heap.size + 1 + 1 = w.heap.size + 2 from rfl]
 rw [hW1]
 clear hW1
 refine wpIn_rangeFunc_any rfl (by decide) (gf := 114) (lb := #[.pointer (some ⟨w.heap.size + 2, 0, none⟩)]) rfl trivial (enters_of Tryd.func114 (by kernel_rfl) rfl)
  (rule_edges1.any (10 - 1) A0 c0 l0 w hr0 hc0 hlim hL W1 hB1 (w.heap.size + 2) (w.heap.size + 1) hb1 (by omega) (by omega)) KpBut.t
  (fun V l o o' hl ho hc hw => ⟨belowK_b hB1.size V l o o' hl ho hc hw, KeepsWalks.putObj _ ho hw, fun k x _ hk hx => (World.putObj_heap_other hk).trans hx⟩) (Below.refl _ _) (fun _ => rfl)
  (fun pre V => (Below w.heap.size w V ∧ W1.heap.size ≤ V.heap.size) ∧ V.heap[w.heap.size]? = some (.cells #[.int .i64 3] 55 (0, 0)) ∧ V.heap[w.heap.size + 1]? = some (.cells #[.int .i64 (lastAt pre).2.2] 3 (0, 0)))
  (fun s X Y row hs hg hr => ⟨⟨hs.1.1.grown hg hs.1.1.size (fun r e => by have := hr r e; omega), Nat.le_trans hs.1.2 hg.size⟩, blk_grown hs.2.1 hg (fun e => by have := hr _ e.symm; omega), blk_grown hs.2.2 hg (fun e => by have := hr _ e.symm; omega)⟩)
  ⟨⟨hB1, Nat.le_refl _⟩, hr1, hn1⟩
  (fun x a' V => ∃ Bx, W1.heap.size ≤ Bx ∧ V.heap[Bx]? = some (.cells #[.int .i64 0, .int .i64 x.1, .int .i64 x.2.1, .int .i64 x.2.2] 135 (0, 0)) ∧ a' = { tmps := #[.slice A0 l0.length c0, .int .i64 3, undef, .pointer (some ⟨w.heap.size, 0, none⟩), .int .i64 0, .pointer (some ⟨w.heap.size + 1, 0, none⟩), .pointer (some ⟨Bx, 0, none⟩), .slice A0 l0.length c0, .func (.func 114) #[] #[.pointer (some ⟨w.heap.size + 2, 0, none⟩)], .agg #[.int .i64 0, .int .i64 x.1, .int .i64 x.2.1, .int .i64 x.2.2], undef, undef, undef, undef], defers := [] })
  (fun x a' _ X Y row hs hg hr => by obtain ⟨Bx, h1, h2, h3⟩ := hs; exact ⟨Bx, h1, blk_abides h2 hg (fun r e => (hr r e).2), h3⟩)
  ?assign ?body ?done
 case assign =>
  rintro l pre x V K ⟨⟨hB, hsv⟩, hr, hn⟩ hK
  gi_wp2
  exact hK _ _ ((KeepsOthers.alloc _ _).from _) ⟨(Below.refl _ V).alloc hB.size _, (KeepsOthers.alloc _ _).walks, fun k o _ _ h => (Below.heap_alloc _ _ _ (blk_lt h)).trans h⟩ ⟨⟨hB.alloc hB.size _, by simp; omega⟩, blk_alloc hr _, blk_alloc hn _⟩ ⟨V.heap.size, hsv, blk_new V _, rfl⟩
 case body =>
  rintro l pre x a' V ⟨⟨hB, hsv⟩, hr, hn⟩ ⟨Bx, hBx, hbx, rfl⟩
  rw [lastAt_snoc]
  obtain ⟨x1, x2, x3⟩ := x
  dsimp only at hbx ⊢
  have cr := blk_cell hr 0
  have fn0 := blk_frozen hn 0
  have cn0 := blk_cell hn 0
  have cx0 := blk_cell hbx 0
  have cx1 := blk_cell hbx 1
  have cx2 := blk_cell hbx 2
  have cx3 := blk_cell hbx 3
  refine wpIn_mono (Q := SizePost W1.heap.size (w.heap.size + 1) l w.heap.size (fun V2 => (Below w.heap.size w V2 ∧ W1.heap.size ≤ V2.heap.size) ∧ V2.heap[w.heap.size]? = some (.cells #[.int .i64 3] 55 (0, 0)) ∧ V2.heap[w.heap.size + 1]? = some (.cells #[.int .i64 x3] 3 (0, 0))) V) ?walk (fun e _ V2 h => h)
  gi_wp2
  refine ⟨rfl, (KeepsOthers.setCell _ _ _).from _, ⟨(Below.refl _ _).setCell (p := ⟨w.heap.size + 1, 0, none⟩) (Nat.le_succ _) _, KeepsWalks.setCell _ _ _, fun k o hk _ h => (Below.heap_setCell _ _ _ k hk).trans h⟩, ⟨hB.setCell (p := ⟨w.heap.size + 1, 0, none⟩) (Nat.le_succ _) _, by simpa using hsv⟩, blk_far hr (p := ⟨w.heap.size + 1, 0, none⟩) (by simp) _, blk_set hn 0 _⟩
 case done =>
  rintro D zs V hD rfl ⟨⟨hB, hsv⟩, hr, hn⟩ hK
  have cn := blk_cell hn 0
  gi_wp2
  refine ⟨by simp, .inl ⟨_, _, rfl, run_takeDeferred hK, ?_⟩⟩
  exact ⟨_, results_tmp rfl _ _ _, rfl, hB.trans (belowK_b (w := w) (Nat.le_refl _) V D _ _ (by omega) hK rfl rfl)⟩

theorem rule_size.calls (A0 : Option Addr) (c0 : Nat) (l0 : List Int) (a1 : Int) (r : Int) (w : World) (hr0 : Kd.C (Kd.int .u8) w A0 l0.length l0) (hc0 : l0.length ≤ c0) (hL : LaidBad w) (h : rule_size.f l0 a1 = some r) :
  Calls Tryd.prog 103 #[.slice A0 l0.length c0, .int .i64 a1] w fun e w' => e = .returned (.int .i64 r) ∧ Below w.heap.size w w' := by
 unfold rule_size.f at h
 by_cases hl : l0.length ≤ 4398046511104
 ·rw [if_pos hl] at h
  by_cases h2 : a1 = 2
  ·rw [if_pos h2] at h
   subst h2
   cases h
   exact rule_size.walk2 A0 c0 l0 w hr0 hc0 hL hl
  ·rw [if_neg h2] at h
   by_cases h3 : a1 = 3
   ·rw [if_pos h3] at h
    subst h3
    cases h
    exact rule_size.walk3 A0 c0 l0 w hr0 hc0 hL hl
   ·rw [if_neg h3] at h
    cases h
 ·rw [if_neg hl] at h
  cases h

end Go.Proofs.YtijbkiajhicooaaDoor.PW

namespace Go.Proofs.YtijbkiajhicooaaDoor.PW
open Go.RowKit Go.Proofs.YtijbkiajhicooaaDoorW.PrintWords Go.Proofs.YtijbkiajhicooaaDoorW.PrintLast Go.Proofs.YtijbkiajhicooaaDoorW.PrintMore
attribute [local go_sem] max2_int min2_int max_two min_two max_three min_three max_four min_four   -- for this text's walks alone
set_option linter.unusedVariables false
set_option linter.unusedSimpArgs false

def rule_Size.f (l0 : List Int) (a1 : Int) : Option (Int × Int) := (rule_ruler.f a1).bind fun t144 => (if t144 = true then ((rule_size.f l0 a1).bind fun t145 => (some (t145, 0))) else (some (0, 3)))
set_option maxHeartbeats 8000000 in
set_option maxRecDepth 100000 in
theorem rule_Size.calls (A0 : Option Addr) (c0 : Nat) (l0 : List Int) (a1 : Int) (r1 : Int) (r2 : Int) (w : World) (hr0 : Kd.C (Kd.int .u8) w A0 l0.length l0) (hc0 : l0.length ≤ c0) (hL : LaidBad w) (h : rule_Size.f l0 a1 = some (r1, r2)) :
  Calls Tryd.prog 84 #[.slice A0 l0.length c0, .int .i64 a1] w fun e w' => e = .returned (.tuple #[.int .i64 r1, .int .i64 r2]) ∧ Below w.heap.size w w' := by
 have HR0 := Aside0.mk hr0
 have HC0 := Aside0.mk hc0
 clear hr0 hc0
 have HB := Aside0.mk (Below.refl w.heap.size w)
 have HLB := Aside0.mk hL
 clear hL
 have H : ((rule_ruler.f a1).bind fun t144 => (if t144 = true then ((rule_size.f l0 a1).bind fun t145 => (some (t145, 0))) else (some (0, 3)))) = some (r1, r2) := h
 clear h
 replace H := Option.bind_eq_some_iff.mp H
 obtain ⟨t144, A30, H⟩ := H
 replace H : (if t144 = true then ((rule_size.f l0 a1).bind fun t145 => (some (t145, 0))) else (some (0, 3))) = some (r1, r2) := H
 have A3 := Aside0.mk A30
 clear A30
 by_cases c4 : t144 = true
 ·subst c4
  have H1 : ((rule_size.f l0 a1).bind fun t145 => (some (t145, 0))) = some (r1, r2) := by rw [if_pos rfl] at H; exact H
  clear H
  have H := H1
  clear H1
  replace H := Option.bind_eq_some_iff.mp H
  obtain ⟨t145, A50, H⟩ := H
  replace H : (some (t145, 0)) = some (r1, r2) := H
  have A5 := Aside0.mk A50
  clear A50
  simp only [Option.some.injEq, Prod.mk.injEq] at H
  obtain ⟨rfl, rfl⟩ := H
  go_enter Tryd.func84, Tryd.ntmps84
  go_wp2_with (first | ((with_reducible refine gate_callee (f := 90) rfl ?_); refine goesL_ (some 7) rfl rfl Tryd.func90 (by kernel_rfl) rfl #[.int .i64 a1] rfl (by (try simp only [List.map_toArray, List.map_cons, List.map_nil]); first | done | rfl | (simp only [List.length_drop, List.length_take]; rfl)) ?_; (with_reducible refine (rule_ruler.calls a1 true _ A3.out).mono ?_); rintro e w' ⟨rfl, ⟨nd, rfl⟩⟩; refine ⟨_, rfl, ?_⟩) | ((with_reducible refine gate_callee (f := 103) rfl ?_); refine goesL_ (some 11) rfl rfl Tryd.func103 (by kernel_rfl) rfl #[.slice A0 l0.length c0, .int .i64 a1] rfl (by (try simp only [List.map_toArray, List.map_cons, List.map_nil]); first | done | rfl | (simp only [List.length_drop, List.length_take]; rfl)) ?_; (with_reducible refine (rule_size.calls _ _ l0 a1 t145 _ ?side1 ?side2 ?side3 A5.out).mono ?_); (case side1 => repeat (first | exact HR0.out | (with_reducible refine Kd.C_alloc ?_ _) | (with_reducible refine Kd.C_drewN ?_ _) | (with_reducible refine Kd.C_drew ?_))); (case side2 => exact HC0.out); (case side3 => exact laid_below HLB.out (by repeat (first | (with_reducible first | exact HB.out | apply below_alloc | apply pw_below_drewN | apply below_drew1) | exact HB.out))); rintro e w6 ⟨rfl, hb⟩; refine ⟨_, rfl, ?_⟩; have n0_ := Aside0.mk (below_step (by repeat (first | (with_reducible first | exact HB.out | apply below_alloc | apply pw_below_drewN | apply below_drew1) | exact HB.out)) hb); clear HB; have HB := n0_; clear n0_; (try clear hb); (try clear hb2); (try clear hk); (try clear hi)))
  go_ret2
  exact ⟨by first | rfl | (simp [errW_none, errW_some] <;> rfl) | (simp [*, errW_none, errW_some] <;> rfl), by repeat (first | (with_reducible first | exact HB.out | apply below_alloc | apply pw_below_drewN | apply below_drew1) | exact HB.out)⟩
 ·replace c4 := Bool.eq_false_iff.mpr c4
  subst c4
  have H1 : (some (0, 3)) = some (r1, r2) := by rw [if_neg (show ¬ (false = true) by decide)] at H; exact H
  clear H
  have H := H1
  clear H1
  simp only [Option.some.injEq, Prod.mk.injEq] at H
  obtain ⟨rfl, rfl⟩ := H
  go_enter Tryd.func84, Tryd.ntmps84
  go_wp2_with (first | ((with_reducible refine gate_callee (f := 90) rfl ?_); refine goesL_ (some 7) rfl rfl Tryd.func90 (by kernel_rfl) rfl #[.int .i64 a1] rfl (by (try simp only [List.map_toArray, List.map_cons, List.map_nil]); first | done | rfl | (simp only [List.length_drop, List.length_take]; rfl)) ?_; (with_reducible refine (rule_ruler.calls a1 false _ A3.out).mono ?_); rintro e w' ⟨rfl, ⟨nd, rfl⟩⟩; refine ⟨_, rfl, ?_⟩))
  go_ret2
  exact ⟨by first | rfl | (simp [errW_none, errW_some] <;> rfl) | (simp [*, errW_none, errW_some] <;> rfl), by repeat (first | (with_reducible first | exact HB.out | apply below_alloc | apply pw_below_drewN | apply below_drew1) | exact HB.out)⟩

end Go.Proofs.YtijbkiajhicooaaDoor.PW

namespace Go.Proofs.YtijbkiajhicooaaDoor.PW
open Go.RowKit Go.Proofs.YtijbkiajhicooaaDoorW.PrintWords Go.Proofs.YtijbkiajhicooaaDoorW.PrintLast Go.Proofs.YtijbkiajhicooaaDoorW.PrintMore
attribute [local go_sem] max2_int min2_int max_two min_two max_three min_three max_four min_four   -- for this text's walks alone
set_option linter.unusedVariables false
set_option linter.unusedSimpArgs false

def lines_size.f (l0 : List Int) (a1 : Int) : Option (Int) := (rule_Size.f l0 a1).bind fun bt146 => (some bt146.1)
set_option maxHeartbeats 8000000 in
set_option maxRecDepth 100000 in
theorem lines_size.calls (A0 : Option Addr) (c0 : Nat) (l0 : List Int) (a1 : Int) (r : Int) (w : World) (hr0 : Kd.C (Kd.int .u8) w A0 l0.length l0) (hc0 : l0.length ≤ c0) (hL : LaidBad w) (h : lines_size.f l0 a1 = some r) :
  Calls Tryd.prog 71 #[.slice A0 l0.length c0, .int .i64 a1] w fun e w' => e = .returned (.int .i64 r) ∧ Below w.heap.size w w' := by
 have HR0 := Aside0.mk hr0
 have HC0 := Aside0.mk hc0
 clear hr0 hc0
 have HB := Aside0.mk (Below.refl w.heap.size w)
 have HLB := Aside0.mk hL
 clear hL
 have H : ((rule_Size.f l0 a1).bind fun bt146 => (some bt146.1)) = some r := h
 clear h
 replace H := Option.bind_eq_some_iff.mp H
 obtain ⟨⟨t146, t147⟩, A30, H⟩ := H
 replace H : (some t146) = some r := H
 have A3 := Aside0.mk A30
 clear A30
 obtain rfl := Option.some.inj H
 go_enter Tryd.func71, Tryd.ntmps71
 go_wp2_with (first | ((with_reducible refine gate_callee (f := 84) rfl ?_); refine goesL_ (some 10) rfl rfl Tryd.func84 (by kernel_rfl) rfl #[.slice A0 l0.length c0, .int .i64 a1] rfl (by (try simp only [List.map_toArray, List.map_cons, List.map_nil]); first | done | rfl | (simp only [List.length_drop, List.length_take]; rfl)) ?_; (with_reducible refine (rule_Size.calls _ _ l0 a1 t146 t147 _ ?side1 ?side2 ?side3 A3.out).mono ?_); (case side1 => repeat (first | exact HR0.out | (with_reducible refine Kd.C_alloc ?_ _) | (with_reducible refine Kd.C_drewN ?_ _) | (with_reducible refine Kd.C_drew ?_))); (case side2 => exact HC0.out); (case side3 => exact laid_below HLB.out (by repeat (first | (with_reducible first | exact HB.out | apply below_alloc | apply pw_below_drewN | apply below_drew1) | exact HB.out))); rintro e w4 ⟨rfl, hb⟩; refine ⟨_, rfl, ?_⟩; have n0_ := Aside0.mk (below_step (by repeat (first | (with_reducible first | exact HB.out | apply below_alloc | apply pw_below_drewN | apply below_drew1) | exact HB.out)) hb); clear HB; have HB := n0_; clear n0_; (try clear hb); (try clear hb2); (try clear hk); (try clear hi)))
 go_ret
 exact ⟨by first | rfl | (simp [errW_none, errW_some] <;> rfl) | (simp [*, errW_none, errW_some] <;> rfl), by repeat (first | (with_reducible first | exact HB.out | apply below_alloc | apply pw_below_drewN | apply below_drew1) | exact HB.out)⟩

end Go.Proofs.YtijbkiajhicooaaDoor.PW

namespace Go.Proofs.YtijbkiajhicooaaDoor.PW
open Go.RowKit Go.Proofs.YtijbkiajhicooaaDoorW.PrintWords Go.Proofs.YtijbkiajhicooaaDoorW.PrintLast Go.Proofs.YtijbkiajhicooaaDoorW.PrintMore
attribute [local go_sem] max2_int min2_int max_two min_two max_three min_three max_four min_four   -- for this text's walks alone
set_option linter.unusedVariables false
set_option linter.unusedSimpArgs false

def lines_Where.f (k : Nat) (l0 : List Int) (a1 : Int) : Option (Int × Int × Int × Int × Int × Int × Int × Int) := (step_Floor.f k l0 a1).bind fun bt149 => (if bt149.2 = 0 then ((lines_all.f l0).bind fun t151 => ((lines_holds.f k t151 bt149.1).bind fun t154 => (if 0 ≤ bt149.1 then (if bt149.1 ≤ (l0.length : Int) then (if 0 ≤ t154 then (if t154 < (t151.length : Int) then (if 0 ≤ ((rd_T127 t151 t154).f0) then (if ((rd_T127 t151 t154).f0) ≤ bt149.1 then ((lines_size.f (l0.take (bt149.1 : Int).toNat) 2).bind fun t158 => ((lines_size.f (l0.take (bt149.1 : Int).toNat) 3).bind fun t159 => ((lines_size.f ((l0.take (bt149.1 : Int).toNat).drop (((rd_T127 t151 t154).f0) : Int).toNat) 2).bind fun t160 => ((lines_size.f ((l0.take (bt149.1 : Int).toNat).drop (((rd_T127 t151 t154).f0) : Int).toNat) 3).bind fun t161 => (some (bt149.1, t158, t159, t154, (((l0.take (bt149.1 : Int).toNat).drop (((rd_T127 t151 t154).f0) : Int).toNat).length : Int), t160, t161, 0)))))) else (none)) else (none)) else (none)) else (none)) else (none)) else (none)))) else (some (0, 0, 0, 0, 0, 0, 0, bt149.2)))
set_option maxHeartbeats 8000000 in
set_option maxRecDepth 100000 in
theorem lines_Where.calls (k : Nat) (A0 : Option Addr) (c0 : Nat) (l0 : List Int) (a1 : Int) (r1 : Int) (r2 : Int) (r3 : Int) (r4 : Int) (r5 : Int) (r6 : Int) (r7 : Int) (r8 : Int) (w : World) (hr0 : Kd.C (Kd.int .u8) w A0 l0.length l0) (hc0 : l0.length ≤ c0) (hL : LaidBad w) (h : lines_Where.f k l0 a1 = some (r1, r2, r3, r4, r5, r6, r7, r8)) :
  Calls Tryd.prog 45 #[.slice A0 l0.length c0, .int .i64 a1] w fun e w' => e = .returned (.tuple #[.agg #[.int .i64 r1, .int .i64 r2, .int .i64 r3, .int .i64 r4, .int .i64 r5, .int .i64 r6, .int .i64 r7], .int .i64 r8]) ∧ Below w.heap.size w w' := by
 have HR := Aside0.mk hr0
 have HC := Aside0.mk hc0
 have HLW := Aside0.mk hL
 unfold lines_Where.f at h
 obtain ⟨⟨p, e⟩, hfl, h⟩ := Option.bind_eq_some_iff.mp h
 dsimp only at h
 have hu := Tryd.underlying87
 have hu2 := Tryd.underlying127
 have hb1 : Below w.heap.size w (w.alloc (.cells #[.int .i64 0, .int .i64 0, .int .i64 0, .int .i64 0, .int .i64 0, .int .i64 0, .int .i64 0] 87)) := below_alloc (Below.refl _ _) _
 have hL1 := laid_below hL hb1
 have hg1 := blk_new w (.cells #[.int .i64 0, .int .i64 0, .int .i64 0, .int .i64 0, .int .i64 0, .int .i64 0, .int .i64 0] 87)
 have hr1 := Kd.C_below hr0 hb1
 have HF := Aside0.mk hfl
 have HG := Aside0.mk hg1
 have HB := Aside0.mk hb1
 have HR1 := Aside0.mk hr1
 have HL := Aside0.mk hL1
 clear hr0 hc0 hfl hg1 hb1 hr1 hL hL1
 by_cases he : e = 0
 ·rw [if_pos he] at h
  subst he
  obtain ⟨ls, hall, h⟩ := Option.bind_eq_some_iff.mp h
  obtain ⟨kk, hholds, h⟩ := Option.bind_eq_some_iff.mp h
  by_cases g0 : 0 ≤ p
  ·rw [if_pos g0] at h
   by_cases g1 : p ≤ (l0.length : Int)
   ·rw [if_pos g1] at h
    by_cases g2 : 0 ≤ kk
    ·rw [if_pos g2] at h
     by_cases g3 : kk < (ls.length : Int)
     ·rw [if_pos g3] at h
      by_cases g4 : 0 ≤ (rd_T127 ls kk).f0
      ·rw [if_pos g4] at h
       by_cases g5 : (rd_T127 ls kk).f0 ≤ p
       ·rw [if_pos g5] at h
        obtain ⟨s1, hs1, h⟩ := Option.bind_eq_some_iff.mp h
        obtain ⟨s2, hs2, h⟩ := Option.bind_eq_some_iff.mp h
        obtain ⟨s3, hs3, h⟩ := Option.bind_eq_some_iff.mp h
        obtain ⟨s4, hs4, h⟩ := Option.bind_eq_some_iff.mp h
        simp only [Option.some.injEq, Prod.mk.injEq] at h
        obtain ⟨rfl, rfl, rfl, rfl, rfl, rfl, rfl, rfl⟩ := h
        obtain ⟨i0, hi0, _, hsz0, _⟩ := info_parts info5
        obtain ⟨hcutA, hA, hCA⟩ := print_take_of (P := Tryd.prog) (Value.int .u8) 0 29 5 .i64 Tryd.underlying29 hi0 hsz0 A0 c0 l0 p g0 g1 HC.out
        obtain ⟨A9, hcutB, hB, hCB⟩ := print_mid_of (P := Tryd.prog) (Value.int .u8) 0 29 5 .i64 .i64 Tryd.underlying29 hi0 hsz0 A0 c0 l0 (rd_T127 ls kk).f0 p g4 g5 g1 HC.out
        have HRA := Aside0.mk (Kd.C_of_reads (h1 := fun _ => rfl) (hA _ (Kd.reads_of_C HR.out)))
        have HRB := Aside0.mk (Kd.C_of_reads (h1 := fun _ => rfl) (hB _ (Kd.reads_of_C HR.out)))
        have HCA := Aside0.mk hCA
        have HCB := Aside0.mk hCB
        have S1 := Aside0.mk hs1
        have S2 := Aside0.mk hs2
        have S3 := Aside0.mk hs3
        have S4 := Aside0.mk hs4
        have HALL := Aside0.mk hall
        have HHO := Aside0.mk hholds
        have G2 := Aside0.mk g2
        have G3 := Aside0.mk g3
        clear hA hB hCA hCB hs1 hs2 hs3 hs4 hi0 hsz0 hall hholds
        generalize hta : l0.take p.toNat = la at *
        generalize htb : la.drop (rd_T127 ls kk).f0.toNat = lb at *
        clear hta htb
        replace g0 := eq_true g0
        replace g1 := eq_true g1
        replace g2 := eq_true g2
        replace g3 := eq_true g3
        replace g4 := eq_true g4
        replace g5 := eq_true g5
        go_enter Tryd.func45, Tryd.ntmps45
        go_wp2_with fail
        refine (step_Floor.calls k _ _ l0 a1 p 0 _ HR1.out HC.out HL.out HF.out).mono ?_
        rintro e w2 ⟨rfl, hb2⟩
        have HB2 := Aside0.mk (below_step HB.out hb2)
        have HR2 := Aside0.mk (Kd.C_below HR1.out hb2)
        have HG2 := Aside0.mk (blk_below HG.out hb2)
        clear hb2
        go_wp2_with fail
        refine (lines_all.calls _ _ l0 ls _ HR2.out HC.out HALL.out).mono ?_
        rintro e w3 ⟨vl, rfl, hv, hb3⟩
        have HB3 := Aside0.mk (below_step HB2.out hb3)
        have HG3 := Aside0.mk (blk_below HG2.out hb3)
        clear hb3
        obtain ⟨Al, cl, rfl⟩ := Kd.R_slice hv
        have HV := Aside0.mk hv
        clear hv
        go_wp2_with fail
        refine (lines_holds.calls k _ _ ls p kk _ (Kd.R_reads' HV.out).2.2 (Kd.R_reads' HV.out).2.1 HHO.out).mono ?_
        rintro e w4 ⟨rfl, hw4⟩
        obtain ⟨n4, rfl⟩ := hw4.out
        clear hw4
        obtain ⟨ad, hAd, e0, e1, e2, e3⟩ := at_T127 (Kd.R_reads' HV.out).2.2 kk G2.out G3.out
        cases hAd
        go_wp2
        go_quiet (fail)
        go_wp2_with fail
        refine (lines_size.calls _ _ la 2 s1 _ (Kd.C_below HRA.out (pw_below_drewN HB3.out _)) HCA.out (laid_below HLW.out (pw_below_drewN HB3.out _)) S1.out).mono ?_
        rintro e w5 ⟨rfl, hb5⟩
        have HB5 := Aside0.mk (below_step (pw_below_drewN HB3.out _) hb5)
        have HG5 := Aside0.mk (blk_below (blk_drewN HG3.out _) hb5)
        clear hb5
        go_wp2_with fail
        refine (lines_size.calls _ _ la 3 s2 _ (Kd.C_below HRA.out HB5.out) HCA.out (laid_below HLW.out HB5.out) S2.out).mono ?_
        rintro e w6 ⟨rfl, hb6⟩
        have HB6 := Aside0.mk (below_step HB5.out hb6)
        have HG6 := Aside0.mk (blk_below HG5.out hb6)
        clear hb6
        go_wp2_with fail
        refine (lines_size.calls _ _ lb 2 s3 _ (Kd.C_below HRB.out HB6.out) HCB.out (laid_below HLW.out HB6.out) S3.out).mono ?_
        rintro e w7 ⟨rfl, hb7⟩
        have HB7 := Aside0.mk (below_step HB6.out hb7)
        have HG7 := Aside0.mk (blk_below HG6.out hb7)
        clear hb7
        go_wp2_with fail
        refine (lines_size.calls _ _ lb 3 s4 _ (Kd.C_below HRB.out HB7.out) HCB.out (laid_below HLW.out HB7.out) S4.out).mono ?_
        rintro e w8 ⟨rfl, hb8⟩
        have HB8 := Aside0.mk (below_step HB7.out hb8)
        have HG8 := Aside0.mk (blk_below HG7.out hb8)
        clear hb8
        have cz0 := blk_cell HG8.out 0
        have fz0 := blk_frozen HG8.out 0
        have cz1 := blk_cell HG8.out 1
        have fz1 := blk_frozen HG8.out 1
        have cz2 := blk_cell HG8.out 2
        have fz2 := blk_frozen HG8.out 2
        have cz3 := blk_cell HG8.out 3
        have fz3 := blk_frozen HG8.out 3
        have cz4 := blk_cell HG8.out 4
        have fz4 := blk_frozen HG8.out 4
        have cz5 := blk_cell HG8.out 5
        have fz5 := blk_frozen HG8.out 5
        have cz6 := blk_cell HG8.out 6
        have fz6 := blk_frozen HG8.out 6
        go_wp2
        refine bodyPost_ret (results_ct rfl _ _ w.heap.size 87 #[.int .i64 p, .int .i64 s1, .int .i64 s2, .int .i64 kk, .int .i64 (lb.length : Int), .int .i64 s3, .int .i64 s4] (0, 0) _ rfl (blk_put7 _ _ _ _ _ _ _ HG8.out) Tryd.underlying87 rfl (by kernel_rfl)) rfl ?_
        exact ⟨rfl, below_put7 HB8.out (Nat.le_refl _) _ _ _ _ _ _ _⟩
       ·rw [if_neg g5] at h
        cases h
      ·rw [if_neg g4] at h
       cases h
     ·rw [if_neg g3] at h
      cases h
    ·rw [if_neg g2] at h
     cases h
   ·rw [if_neg g1] at h
    cases h
  ·rw [if_neg g0] at h
   cases h
 ·rw [if_neg he] at h
  simp only [Option.some.injEq, Prod.mk.injEq] at h
  obtain ⟨rfl, rfl, rfl, rfl, rfl, rfl, rfl, rfl⟩ := h
  have heb : (e != 0) = true := by simpa using he
  have heb2 : (e == 0) = false := by simpa using he
  clear he
  go_enter Tryd.func45, Tryd.ntmps45
  go_wp2_with fail
  refine (step_Floor.calls k _ _ l0 a1 p e _ HR1.out HC.out HL.out HF.out).mono ?_
  rintro e2 w2 ⟨rfl, hb2⟩
  have HG2 := Aside0.mk (blk_below HG.out hb2)
  have HB2 := Aside0.mk (below_step HB.out hb2)
  have cz0 := blk_cell HG2.out 0
  have fz0 := blk_frozen HG2.out 0
  have cz1 := blk_cell HG2.out 1
  have fz1 := blk_frozen HG2.out 1
  have cz2 := blk_cell HG2.out 2
  have fz2 := blk_frozen HG2.out 2
  have cz3 := blk_cell HG2.out 3
  have fz3 := blk_frozen HG2.out 3
  have cz4 := blk_cell HG2.out 4
  have fz4 := blk_frozen HG2.out 4
  have cz5 := blk_cell HG2.out 5
  have fz5 := blk_frozen HG2.out 5
  have cz6 := blk_cell HG2.out 6
  have fz6 := blk_frozen HG2.out 6
  clear hb2
  go_wp2
  refine bodyPost_ret (results_ct rfl _ _ w.heap.size 87 #[.int .i64 0, .int .i64 0, .int .i64 0, .int .i64 0, .int .i64 0, .int .i64 0, .int .i64 0] (0, 0) _ rfl (blk_put7 _ _ _ _ _ _ _ HG2.out) Tryd.underlying87 rfl (by kernel_rfl)) rfl ?_
  exact ⟨rfl, below_put7 HB2.out (Nat.le_refl _) _ _ _ _ _ _ _⟩

end Go.Proofs.YtijbkiajhicooaaDoor.PW

namespace Go.Proofs.YtijbkiajhicooaaDoor.PW
open Go.RowKit Go.Proofs.YtijbkiajhicooaaDoorW.PrintWords Go.Proofs.YtijbkiajhicooaaDoorW.PrintLast Go.Proofs.YtijbkiajhicooaaDoorW.PrintMore
attribute [local go_sem] max2_int min2_int max_two min_two max_three min_three max_four min_four   -- for this text's walks alone
set_option linter.unusedVariables false
set_option linter.unusedSimpArgs false

def lines_Line.f (l0 : List Int) (a1 : Int) : Option (Int × Int × Int × Int) := (lines_all.f l0).bind fun t162 => (if a1 < 0 then (some (0, 0, 0, 2)) else (if a1 ≥ (t162.length : Int) then (some (0, 0, 0, 2)) else (if 0 ≤ a1 then (if a1 < (t162.length : Int) then (some ((rd_T127 t162 a1).f0, (rd_T127 t162 a1).f1, (rd_T127 t162 a1).f3, 0)) else (none)) else (none))))
set_option maxHeartbeats 8000000 in
set_option maxRecDepth 100000 in
theorem lines_Line.calls (A0 : Option Addr) (c0 : Nat) (l0 : List Int) (a1 : Int) (r1 : Int) (r2 : Int) (r3 : Int) (r4 : Int) (w : World) (hr0 : Kd.C (Kd.int .u8) w A0 l0.length l0) (hc0 : l0.length ≤ c0) (h : lines_Line.f l0 a1 = some (r1, r2, r3, r4)) :
  Calls Tryd.prog 46 #[.slice A0 l0.length c0, .int .i64 a1] w fun e w' => e = .returned (.tuple #[.int .i64 r1, .int .i64 r2, .int .i64 r3, .int .i64 r4]) ∧ Below w.heap.size w w' := by
 have HR0 := Aside0.mk hr0
 have HC0 := Aside0.mk hc0
 clear hr0 hc0
 have HB := Aside0.mk (Below.refl w.heap.size w)
 have H : ((lines_all.f l0).bind fun t162 => (if a1 < 0 then (some (0, 0, 0, 2)) else (if a1 ≥ (t162.length : Int) then (some (0, 0, 0, 2)) else (if 0 ≤ a1 then (if a1 < (t162.length : Int) then (some ((rd_T127 t162 a1).f0, (rd_T127 t162 a1).f1, (rd_T127 t162 a1).f3, 0)) else (none)) else (none))))) = some (r1, r2, r3, r4) := h
 clear h
 replace H := Option.bind_eq_some_iff.mp H
 obtain ⟨t162, A30, H⟩ := H
 replace H : (if a1 < 0 then (some (0, 0, 0, 2)) else (if a1 ≥ (t162.length : Int) then (some (0, 0, 0, 2)) else (if 0 ≤ a1 then (if a1 < (t162.length : Int) then (some ((rd_T127 t162 a1).f0, (rd_T127 t162 a1).f1, (rd_T127 t162 a1).f3, 0)) else (none)) else (none)))) = some (r1, r2, r3, r4) := H
 have A3 := Aside0.mk A30
 clear A30
 by_cases c4 : a1 < 0
 ·rw [if_pos c4] at H
  have c4b0 : decide (a1 < 0) = true := decide_eq_true c4
  clear c4
  simp only [Option.some.injEq, Prod.mk.injEq] at H
  obtain ⟨rfl, rfl, rfl, rfl⟩ := H
  go_enter Tryd.func46, Tryd.ntmps46
  go_wp2_with (first | (go_at_call 69; (with_reducible refine (lines_all.calls _ _ l0 t162 _ ?side1 ?side2 A3.out).mono ?_); (case side1 => repeat (first | exact HR0.out | (with_reducible refine Kd.C_alloc ?_ _) | (with_reducible refine Kd.C_drewN ?_ _) | (with_reducible refine Kd.C_drew ?_))); (case side2 => exact HC0.out); rintro e w5 ⟨v163, rfl, ho0, hb⟩; have n0_ := Aside0.mk (Kd.R_lower ho0 (below_size (by repeat (first | (with_reducible first | exact HB.out | apply below_alloc | apply pw_below_drewN | apply below_drew1) | exact HB.out)))); have n1_ := Aside0.mk (below_step (by repeat (first | (with_reducible first | exact HB.out | apply below_alloc | apply pw_below_drewN | apply below_drew1) | exact HB.out)) hb); clear HB; have HO164 := n0_; have HB := n1_; clear n0_ n1_; (try clear hb); (try clear hb2); (try clear hk); (try clear hi); (try clear ho0)))
  repeat (go_quiet (first | (go_at_call 69; (with_reducible refine (lines_all.calls _ _ l0 t162 _ ?side1 ?side2 A3.out).mono ?_); (case side1 => repeat (first | exact HR0.out | (with_reducible refine Kd.C_alloc ?_ _) | (with_reducible refine Kd.C_drewN ?_ _) | (with_reducible refine Kd.C_drew ?_))); (case side2 => exact HC0.out); rintro e w5 ⟨v163, rfl, ho0, hb⟩; have n0_ := Aside0.mk (Kd.R_lower ho0 (below_size (by repeat (first | (with_reducible first | exact HB.out | apply below_alloc | apply pw_below_drewN | apply below_drew1) | exact HB.out)))); have n1_ := Aside0.mk (below_step (by repeat (first | (with_reducible first | exact HB.out | apply below_alloc | apply pw_below_drewN | apply below_drew1) | exact HB.out)) hb); clear HB; have HO164 := n0_; have HB := n1_; clear n0_ n1_; (try clear hb); (try clear hb2); (try clear hk); (try clear hi); (try clear ho0))); try go_wp2_with (first | (go_at_call 69; (with_reducible refine (lines_all.calls _ _ l0 t162 _ ?side1 ?side2 A3.out).mono ?_); (case side1 => repeat (first | exact HR0.out | (with_reducible refine Kd.C_alloc ?_ _) | (with_reducible refine Kd.C_drewN ?_ _) | (with_reducible refine Kd.C_drew ?_))); (case side2 => exact HC0.out); rintro e w5 ⟨v163, rfl, ho0, hb⟩; have n0_ := Aside0.mk (Kd.R_lower ho0 (below_size (by repeat (first | (with_reducible first | exact HB.out | apply below_alloc | apply pw_below_drewN | apply below_drew1) | exact HB.out)))); have n1_ := Aside0.mk (below_step (by repeat (first | (with_reducible first | exact HB.out | apply below_alloc | apply pw_below_drewN | apply below_drew1) | exact HB.out)) hb); clear HB; have HO164 := n0_; have HB := n1_; clear n0_ n1_; (try clear hb); (try clear hb2); (try clear hk); (try clear hi); (try clear ho0))))
  refine bodyPost_ret (results_list (rs := [.tmp 4, .tmp 5, .tmp 6, .tmp 7]) rfl (by simp) (.tmp (.tmp (.tmp (.tmp .nil))))) rfl ?_
  exact ⟨by first | rfl | (simp [errW_none, errW_some] <;> rfl) | (simp [*, errW_none, errW_some] <;> rfl), by repeat (first | (with_reducible first | exact HB.out | apply below_alloc | apply pw_below_drewN | apply below_drew1) | exact HB.out)⟩
 ·rw [if_neg c4] at H
  have c4b0 : decide (a1 < 0) = false := decide_eq_false c4
  clear c4
  by_cases c6 : a1 ≥ (t162.length : Int)
  ·rw [if_pos c6] at H
   have c6b0 : decide ((t162.length : Int) ≤ a1) = true := decide_eq_true c6
   clear c6
   simp only [Option.some.injEq, Prod.mk.injEq] at H
   obtain ⟨rfl, rfl, rfl, rfl⟩ := H
   go_enter Tryd.func46, Tryd.ntmps46
   go_wp2_with (first | (go_at_call 69; (with_reducible refine (lines_all.calls _ _ l0 t162 _ ?side1 ?side2 A3.out).mono ?_); (case side1 => repeat (first | exact HR0.out | (with_reducible refine Kd.C_alloc ?_ _) | (with_reducible refine Kd.C_drewN ?_ _) | (with_reducible refine Kd.C_drew ?_))); (case side2 => exact HC0.out); rintro e w7 ⟨v163, rfl, ho0, hb⟩; have n0_ := Aside0.mk (Kd.R_lower ho0 (below_size (by repeat (first | (with_reducible first | exact HB.out | apply below_alloc | apply pw_below_drewN | apply below_drew1) | exact HB.out)))); have n1_ := Aside0.mk (below_step (by repeat (first | (with_reducible first | exact HB.out | apply below_alloc | apply pw_below_drewN | apply below_drew1) | exact HB.out)) hb); clear HB; have HO164 := n0_; have HB := n1_; clear n0_ n1_; (try clear hb); (try clear hb2); (try clear hk); (try clear hi); (try clear ho0); obtain ⟨Ao8, co8, eo8⟩ := Kd.R_slice HO164.out; subst eo8))
   repeat (go_quiet (first | (go_at_call 69; (with_reducible refine (lines_all.calls _ _ l0 t162 _ ?side1 ?side2 A3.out).mono ?_); (case side1 => repeat (first | exact HR0.out | (with_reducible refine Kd.C_alloc ?_ _) | (with_reducible refine Kd.C_drewN ?_ _) | (with_reducible refine Kd.C_drew ?_))); (case side2 => exact HC0.out); rintro e w7 ⟨v163, rfl, ho0, hb⟩; have n0_ := Aside0.mk (Kd.R_lower ho0 (below_size (by repeat (first | (with_reducible first | exact HB.out | apply below_alloc | apply pw_below_drewN | apply below_drew1) | exact HB.out)))); have n1_ := Aside0.mk (below_step (by repeat (first | (with_reducible first | exact HB.out | apply below_alloc | apply pw_below_drewN | apply below_drew1) | exact HB.out)) hb); clear HB; have HO164 := n0_; have HB := n1_; clear n0_ n1_; (try clear hb); (try clear hb2); (try clear hk); (try clear hi); (try clear ho0); obtain ⟨Ao8, co8, eo8⟩ := Kd.R_slice HO164.out; subst eo8)); try go_wp2_with (first | (go_at_call 69; (with_reducible refine (lines_all.calls _ _ l0 t162 _ ?side1 ?side2 A3.out).mono ?_); (case side1 => repeat (first | exact HR0.out | (with_reducible refine Kd.C_alloc ?_ _) | (with_reducible refine Kd.C_drewN ?_ _) | (with_reducible refine Kd.C_drew ?_))); (case side2 => exact HC0.out); rintro e w7 ⟨v163, rfl, ho0, hb⟩; have n0_ := Aside0.mk (Kd.R_lower ho0 (below_size (by repeat (first | (with_reducible first | exact HB.out | apply below_alloc | apply pw_below_drewN | apply below_drew1) | exact HB.out)))); have n1_ := Aside0.mk (below_step (by repeat (first | (with_reducible first | exact HB.out | apply below_alloc | apply pw_below_drewN | apply below_drew1) | exact HB.out)) hb); clear HB; have HO164 := n0_; have HB := n1_; clear n0_ n1_; (try clear hb); (try clear hb2); (try clear hk); (try clear hi); (try clear ho0); obtain ⟨Ao8, co8, eo8⟩ := Kd.R_slice HO164.out; subst eo8)))
   refine bodyPost_ret (results_list (rs := [.tmp 4, .tmp 5, .tmp 6, .tmp 7]) rfl (by simp) (.tmp (.tmp (.tmp (.tmp .nil))))) rfl ?_
   exact ⟨by first | rfl | (simp [errW_none, errW_some] <;> rfl) | (simp [*, errW_none, errW_some] <;> rfl), by repeat (first | (with_reducible first | exact HB.out | apply below_alloc | apply pw_below_drewN | apply below_drew1) | exact HB.out)⟩
  ·rw [if_neg c6] at H
   have c6b0 : decide ((t162.length : Int) ≤ a1) = false := decide_eq_false c6
   clear c6
   by_cases c9 : 0 ≤ a1
   ·rw [if_pos c9] at H
    have c9b0 : decide (0 ≤ a1) = true := decide_eq_true c9
    clear c9
    by_cases c10 : a1 < (t162.length : Int)
    ·rw [if_pos c10] at H
     have c10b0 : decide (a1 < (t162.length : Int)) = true := decide_eq_true c10
     clear c10
     simp only [Option.some.injEq, Prod.mk.injEq] at H
     obtain ⟨rfl, rfl, rfl, rfl⟩ := H
     go_enter Tryd.func46, Tryd.ntmps46
     go_wp2_with (first | (go_at_call 69; (with_reducible refine (lines_all.calls _ _ l0 t162 _ ?side1 ?side2 A3.out).mono ?_); (case side1 => repeat (first | exact HR0.out | (with_reducible refine Kd.C_alloc ?_ _) | (with_reducible refine Kd.C_drewN ?_ _) | (with_reducible refine Kd.C_drew ?_))); (case side2 => exact HC0.out); rintro e w11 ⟨v163, rfl, ho0, hb⟩; have n0_ := Aside0.mk (Kd.R_lower ho0 (below_size (by repeat (first | (with_reducible first | exact HB.out | apply below_alloc | apply pw_below_drewN | apply below_drew1) | exact HB.out)))); have n1_ := Aside0.mk (below_step (by repeat (first | (with_reducible first | exact HB.out | apply below_alloc | apply pw_below_drewN | apply below_drew1) | exact HB.out)) hb); clear HB; have HO164 := n0_; have HB := n1_; clear n0_ n1_; (try clear hb); (try clear hb2); (try clear hk); (try clear hi); (try clear ho0); obtain ⟨Ao12, co12, eo12⟩ := Kd.R_slice HO164.out; subst eo12; have p165 : 0 ≤ (a1 : Int) := of_decide_eq_true (by first | (with_reducible assumption) | assumption); have q165 : a1 < (t162.length : Int) := of_decide_eq_true (by first | (with_reducible assumption) | assumption); obtain ⟨ad165, e165, hx165_0, hx165_1, hx165_2, hx165_3⟩ := at_T127 (Kd.R_reads' HO164.out).2.2 a1 p165 q165; cases e165; replace p165 := eq_true p165; replace q165 := eq_true q165; have p166 : 0 ≤ (a1 : Int) := of_decide_eq_true (by first | (with_reducible assumption) | assumption); have q166 : a1 < (t162.length : Int) := of_decide_eq_true (by first | (with_reducible assumption) | assumption); obtain ⟨ad166, e166, hx166_0, hx166_1, hx166_2, hx166_3⟩ := at_T127 (Kd.R_reads' HO164.out).2.2 a1 p166 q166; obtain rfl : ad165 = ad166 := (by injection e166); replace p166 := eq_true p166; replace q166 := eq_true q166; have p167 : 0 ≤ (a1 : Int) := of_decide_eq_true (by first | (with_reducible assumption) | assumption); have q167 : a1 < (t162.length : Int) := of_decide_eq_true (by first | (with_reducible assumption) | assumption); obtain ⟨ad167, e167, hx167_0, hx167_1, hx167_2, hx167_3⟩ := at_T127 (Kd.R_reads' HO164.out).2.2 a1 p167 q167; obtain rfl : ad165 = ad167 := (by injection e167); replace p167 := eq_true p167; replace q167 := eq_true q167))
     repeat (go_quiet (first | (go_at_call 69; (with_reducible refine (lines_all.calls _ _ l0 t162 _ ?side1 ?side2 A3.out).mono ?_); (case side1 => repeat (first | exact HR0.out | (with_reducible refine Kd.C_alloc ?_ _) | (with_reducible refine Kd.C_drewN ?_ _) | (with_reducible refine Kd.C_drew ?_))); (case side2 => exact HC0.out); rintro e w11 ⟨v163, rfl, ho0, hb⟩; have n0_ := Aside0.mk (Kd.R_lower ho0 (below_size (by repeat (first | (with_reducible first | exact HB.out | apply below_alloc | apply pw_below_drewN | apply below_drew1) | exact HB.out)))); have n1_ := Aside0.mk (below_step (by repeat (first | (with_reducible first | exact HB.out | apply below_alloc | apply pw_below_drewN | apply below_drew1) | exact HB.out)) hb); clear HB; have HO164 := n0_; have HB := n1_; clear n0_ n1_; (try clear hb); (try clear hb2); (try clear hk); (try clear hi); (try clear ho0); obtain ⟨Ao12, co12, eo12⟩ := Kd.R_slice HO164.out; subst eo12; have p165 : 0 ≤ (a1 : Int) := of_decide_eq_true (by first | (with_reducible assumption) | assumption); have q165 : a1 < (t162.length : Int) := of_decide_eq_true (by first | (with_reducible assumption) | assumption); obtain ⟨ad165, e165, hx165_0, hx165_1, hx165_2, hx165_3⟩ := at_T127 (Kd.R_reads' HO164.out).2.2 a1 p165 q165; cases e165; replace p165 := eq_true p165; replace q165 := eq_true q165; have p166 : 0 ≤ (a1 : Int) := of_decide_eq_true (by first | (with_reducible assumption) | assumption); have q166 : a1 < (t162.length : Int) := of_decide_eq_true (by first | (with_reducible assumption) | assumption); obtain ⟨ad166, e166, hx166_0, hx166_1, hx166_2, hx166_3⟩ := at_T127 (Kd.R_reads' HO164.out).2.2 a1 p166 q166; obtain rfl : ad165 = ad166 := (by injection e166); replace p166 := eq_true p166; replace q166 := eq_true q166; have p167 : 0 ≤ (a1 : Int) := of_decide_eq_true (by first | (with_reducible assumption) | assumption); have q167 : a1 < (t162.length : Int) := of_decide_eq_true (by first | (with_reducible assumption) | assumption); obtain ⟨ad167, e167, hx167_0, hx167_1, hx167_2, hx167_3⟩ := at_T127 (Kd.R_reads' HO164.out).2.2 a1 p167 q167; obtain rfl : ad165 = ad167 := (by injection e167); replace p167 := eq_true p167; replace q167 := eq_true q167)); try go_wp2_with (first | (go_at_call 69; (with_reducible refine (lines_all.calls _ _ l0 t162 _ ?side1 ?side2 A3.out).mono ?_); (case side1 => repeat (first | exact HR0.out | (with_reducible refine Kd.C_alloc ?_ _) | (with_reducible refine Kd.C_drewN ?_ _) | (with_reducible refine Kd.C_drew ?_))); (case side2 => exact HC0.out); rintro e w11 ⟨v163, rfl, ho0, hb⟩; have n0_ := Aside0.mk (Kd.R_lower ho0 (below_size (by repeat (first | (with_reducible first | exact HB.out | apply below_alloc | apply pw_below_drewN | apply below_drew1) | exact HB.out)))); have n1_ := Aside0.mk (below_step (by repeat (first | (with_reducible first | exact HB.out | apply below_alloc | apply pw_below_drewN | apply below_drew1) | exact HB.out)) hb); clear HB; have HO164 := n0_; have HB := n1_; clear n0_ n1_; (try clear hb); (try clear hb2); (try clear hk); (try clear hi); (try clear ho0); obtain ⟨Ao12, co12, eo12⟩ := Kd.R_slice HO164.out; subst eo12; have p165 : 0 ≤ (a1 : Int) := of_decide_eq_true (by first | (with_reducible assumption) | assumption); have q165 : a1 < (t162.length : Int) := of_decide_eq_true (by first | (with_reducible assumption) | assumption); obtain ⟨ad165, e165, hx165_0, hx165_1, hx165_2, hx165_3⟩ := at_T127 (Kd.R_reads' HO164.out).2.2 a1 p165 q165; cases e165; replace p165 := eq_true p165; replace q165 := eq_true q165; have p166 : 0 ≤ (a1 : Int) := of_decide_eq_true (by first | (with_reducible assumption) | assumption); have q166 : a1 < (t162.length : Int) := of_decide_eq_true (by first | (with_reducible assumption) | assumption); obtain ⟨ad166, e166, hx166_0, hx166_1, hx166_2, hx166_3⟩ := at_T127 (Kd.R_reads' HO164.out).2.2 a1 p166 q166; obtain rfl : ad165 = ad166 := (by injection e166); replace p166 := eq_true p166; replace q166 := eq_true q166; have p167 : 0 ≤ (a1 : Int) := of_decide_eq_true (by first | (with_reducible assumption) | assumption); have q167 : a1 < (t162.length : Int) := of_decide_eq_true (by first | (with_reducible assumption) | assumption); obtain ⟨ad167, e167, hx167_0, hx167_1, hx167_2, hx167_3⟩ := at_T127 (Kd.R_reads' HO164.out).2.2 a1 p167 q167; obtain rfl : ad165 = ad167 := (by injection e167); replace p167 := eq_true p167; replace q167 := eq_true q167)))
     refine bodyPost_ret (results_list (rs := [.tmp 4, .tmp 5, .tmp 6, .tmp 7]) rfl (by simp) (.tmp (.tmp (.tmp (.tmp .nil))))) rfl ?_
     exact ⟨by first | rfl | (simp [errW_none, errW_some] <;> rfl) | (simp [*, errW_none, errW_some] <;> rfl), by repeat (first | (with_reducible first | exact HB.out | apply below_alloc | apply pw_below_drewN | apply below_drew1) | exact HB.out)⟩
    ·rw [if_neg c10] at H
     exact absurd H (by simp)
   ·rw [if_neg c9] at H
    exact absurd H (by simp)

end Go.Proofs.YtijbkiajhicooaaDoor.PW

namespace Go.Proofs.YtijbkiajhicooaaDoor.PW
open Go.RowKit Go.Proofs.YtijbkiajhicooaaDoorW.PrintWords Go.Proofs.YtijbkiajhicooaaDoorW.PrintLast Go.Proofs.YtijbkiajhicooaaDoorW.PrintMore
attribute [local go_sem] max2_int min2_int max_two min_two max_three min_three max_four min_four   -- for this text's walks alone
set_option linter.unusedVariables false
set_option linter.unusedSimpArgs false

/-- One more step to the right. -/
def colStep (w : Int) (n : Int) (x : PStep) : Int := if x.2.2.2 = true ∧ x.2.1 = 9 then wrap64 (wrap64 (wrap64 (n.tdiv w) + 1) * w) else wrap64 (n + 1)
def colOf (w : Int) (l : List Int) : Int := (allSteps (strOfNums l)).foldl (colStep w) 0
def words_Column.f (l0 : List Int) (a1 a2 : Int) : Option (Int × Int) :=
 (words_outside.f l0 a1).bind fun o => if o = true then some (0, 2) else if a2 < 1 then some (0, 2) else if a2 > 65536 then some (0, 2) else
  (lines_Where.f (l0.length + 10) l0 a1).bind fun x => if x.2.2.2.2.2.2.2 = 0 then
   (lines_Line.f l0 x.2.2.2.1).bind fun y => if 0 ≤ y.1 then if y.1 ≤ mn x.1 y.2.1 then if mn x.1 y.2.1 ≤ (l0.length : Int) then if l0.length ≤ 4398046511104 then
    some (colOf a2 ((l0.take (mn x.1 y.2.1).toNat).drop y.1.toNat), 0) else none else none else none else none
  else some (0, x.2.2.2.2.2.2.2)
attribute [local go_sem] Oper.semAt_some
set_option maxRecDepth 100000 in
set_option maxHeartbeats 4000000 in
theorem words_Column.bad (A0 : Option Addr) (c0 : Nat) (l0 : List Int) (a1 a2 : Int) (o : Bool) (w : World) (hr0 : Kd.C (Kd.int .u8) w A0 l0.length l0) (hc0 : l0.length ≤ c0) (ho : words_outside.f l0 a1 = some o) (h : o = true ∨ a2 < 1 ∨ a2 > 65536) :
  Calls Tryd.prog 26 #[.slice A0 l0.length c0, .int .i64 a1, .int .i64 a2] w fun e w' => e = .returned (.tuple #[.int .i64 0, .int .i64 2]) ∧ Below w.heap.size w w' := by
 have HR := Aside0.mk (Kd.C_alloc hr0 (.cells #[.int .i64 a2] 3))
 have HO := Aside0.mk ho
 have hB : Below w.heap.size w (w.alloc (.cells #[.int .i64 a2] 3)) := (Below.refl _ w).alloc (Nat.le_refl _) _
 clear hr0 ho
 cases o with
 | true =>
  go_enter Tryd.func26, Tryd.ntmps26
  go_wp2_with (go_at_call 44; refine (words_outside.calls A0 c0 l0 a1 true _ HR.out hc0 HO.out).mono ?_; rintro e w' ⟨rfl, ⟨nd, rfl⟩⟩)
  go_ret2
  exact ⟨rfl, pw_below_drewN hB _⟩
 | false =>
  simp only [Bool.false_eq_true, false_or] at h
  by_cases h1 : a2 < 1
  ·have hb : decide (a2 < 1) = true := decide_eq_true h1
   clear h
   go_enter Tryd.func26, Tryd.ntmps26
   go_wp2_with (go_at_call 44; refine (words_outside.calls A0 c0 l0 a1 false _ HR.out hc0 HO.out).mono ?_; rintro e w' ⟨rfl, ⟨nd, rfl⟩⟩)
   go_ret2
   exact ⟨rfl, pw_below_drewN hB _⟩
  ·have hb : decide (a2 < 1) = false := decide_eq_false h1
   have hb2 : decide (a2 > 65536) = true := decide_eq_true (by omega)
   have hb3 : decide (65536 < a2) = true := decide_eq_true (by omega)
   clear h
   go_enter Tryd.func26, Tryd.ntmps26
   go_wp2_with (go_at_call 44; refine (words_outside.calls A0 c0 l0 a1 false _ HR.out hc0 HO.out).mono ?_; rintro e w' ⟨rfl, ⟨nd, rfl⟩⟩)
   go_ret2
   exact ⟨rfl, pw_below_drewN hB _⟩
/-- How a round of the loop is left. -/
def ColPost (B : Nat) (Kp : World → World → Prop) (I : World → Prop) (W : World) : Exit → Act → World → Prop := fun e _ W2 => e = .normal ∧ KeepsFrom B W W2 ∧ Kp W W2 ∧ I W2
theorem colPost_of (w : World) (B Bs g : Nat) (s : ByteArray) (a2 nn v : Int) (V X : World) (a' : Act) (hX : KeepsOthers V X) (hbX : Below w.heap.size V X) (hB : Below w.heap.size w V) (hs : V.heap[Bs]? = some (.cells #[.string s] 9 (0, 0))) (hw : V.heap[w.heap.size]? = some (.cells #[.int .i64 a2] 3 (0, 0)))
  (hn : V.heap[g]? = some (.cells #[.int .i64 nn] 3 (0, 0))) (hh : X.heap = V.heap) (hne : Bs ≠ g) (hne2 : w.heap.size ≠ g) (hg : w.heap.size ≤ g) :
  ColPost B (KpBox w.heap.size Bs) (fun V2 => (Below w.heap.size w V2 ∧ V2.heap[Bs]? = some (.cells #[.string s] 9 (0, 0))) ∧ V2.heap[w.heap.size]? = some (.cells #[.int .i64 a2] 3 (0, 0)) ∧ V2.heap[g]? = some (.cells #[.int .i64 v] 3 (0, 0))) V .normal a' (X.setCell ⟨g, 0, none⟩ (.int .i64 v)) := by
 have hs' : X.heap[Bs]? = some (.cells #[.string s] 9 (0, 0)) := by rw [hh]; exact hs
 have hw' : X.heap[w.heap.size]? = some (.cells #[.int .i64 a2] 3 (0, 0)) := by rw [hh]; exact hw
 have hn' : X.heap[g]? = some (.cells #[.int .i64 nn] 3 (0, 0)) := by rw [hh]; exact hn
 have hk : KeepsOthers V (X.setCell ⟨g, 0, none⟩ (.int .i64 v)) := hX.trans (KeepsOthers.setCell _ _ _)
 have hb := hbX.setCell (p := ⟨g, 0, none⟩) hg (.int .i64 v)
 have hs2 := blk_far hs' (p := ⟨g, 0, none⟩) hne (.int .i64 v)
 exact ⟨rfl, hk.from _, KpBox.of hb (hs2.trans hs.symm) hk, ⟨hB.trans hb, hs2⟩, blk_far hw' (p := ⟨g, 0, none⟩) hne2 _, blk_set hn' 0 _⟩
set_option maxRecDepth 100000 in
set_option maxHeartbeats 4000000 in
theorem words_Column.err (A0 : Option Addr) (c0 : Nat) (l0 : List Int) (a1 a2 : Int) (r1 r2 r3 r4 r5 r6 r7 r8 : Int) (w : World) (hr0 : Kd.C (Kd.int .u8) w A0 l0.length l0) (hc0 : l0.length ≤ c0) (hL : LaidBad w) (ho : words_outside.f l0 a1 = some false) (h1 : 1 ≤ a2) (h2 : a2 ≤ 65536)
  (hw : lines_Where.f (l0.length + 10) l0 a1 = some (r1, r2, r3, r4, r5, r6, r7, r8)) (he : r8 ≠ 0) :
  Calls Tryd.prog 26 #[.slice A0 l0.length c0, .int .i64 a1, .int .i64 a2] w fun e w' => e = .returned (.tuple #[.int .i64 0, .int .i64 r8]) ∧ Below w.heap.size w w' := by
 have HR := Aside0.mk (Kd.C_alloc hr0 (.cells #[.int .i64 a2] 3))
 have HO := Aside0.mk ho
 have HW := Aside0.mk hw
 have hB : Below w.heap.size w (w.alloc (.cells #[.int .i64 a2] 3)) := (Below.refl _ w).alloc (Nat.le_refl _) _
 have HL := Aside0.mk (laid_below hL hB)
 have hb : decide (a2 < 1) = false := decide_eq_false (by omega)
 have hb2 : decide (a2 > 65536) = false := decide_eq_false (by omega)
 have hb3 : decide (65536 < a2) = false := decide_eq_false (by omega)
 have heb : (r8 != 0) = true := by simpa using he
 clear hr0 ho hw he hL
 go_enter Tryd.func26, Tryd.ntmps26
 go_wp2_with (go_at_call 44; refine (words_outside.calls A0 c0 l0 a1 false _ HR.out hc0 HO.out).mono ?_; rintro e w' ⟨rfl, ⟨nd, rfl⟩⟩)
 refine (lines_Where.calls _ A0 c0 l0 a1 r1 r2 r3 r4 r5 r6 r7 r8 _ (Kd.C_drewN HR.out _) hc0 (laid_below HL.out (pw_below_drewN (Below.refl _ _) _)) HW.out).mono ?_
 rintro e w' ⟨rfl, hb5⟩
 have hu := Tryd.underlying87
 go_wp2
 go_ret2
 exact ⟨rfl, ((pw_below_drewN hB nd).trans (hb5.mono (pw_below_drewN hB nd).size)).alloc (by have := hb5.size; simp at this; omega) _⟩
set_option maxRecDepth 100000 in
set_option maxHeartbeats 4000000 in
theorem words_Column.walk (A0 : Option Addr) (c0 : Nat) (l0 : List Int) (a1 a2 : Int) (p r2 r3 ln r5 r6 r7 s ct y3 y4 : Int) (w : World) (hr0 : Kd.C (Kd.int .u8) w A0 l0.length l0) (hc0 : l0.length ≤ c0) (hL : LaidBad w) (ho : words_outside.f l0 a1 = some false) (h1 : 1 ≤ a2) (h2 : a2 ≤ 65536)
  (hw : lines_Where.f (l0.length + 10) l0 a1 = some (p, r2, r3, ln, r5, r6, r7, 0)) (hl : lines_Line.f l0 ln = some (s, ct, y3, y4)) (m : Int) (hm : mn p ct = m) (g0 : 0 ≤ s) (g1 : s ≤ m) (g2 : m ≤ (l0.length : Int)) (hlim : l0.length ≤ 4398046511104) :
  CallsIn Fence.wide 10 Tryd.prog 26 #[.slice A0 l0.length c0, .int .i64 a1, .int .i64 a2] w fun e w' => e = .returned (.tuple #[.int .i64 (colOf a2 ((l0.take m.toNat).drop s.toNat)), .int .i64 0]) ∧ Below w.heap.size w w' := by
 refine callsIn_of_wp_marks Tryd.func26 rfl trivial ?_ rfl
 have hu := Tryd.underlying87
 have HR := Aside0.mk (Kd.C_alloc hr0 (.cells #[.int .i64 a2] 3))
 have HR0 := Aside0.mk hr0
 have HO := Aside0.mk ho
 have HW := Aside0.mk hw
 have HLN := Aside0.mk hl
 have hB : Below w.heap.size w (w.alloc (.cells #[.int .i64 a2] 3)) := (Below.refl _ w).alloc (Nat.le_refl _) _
 have HBa := Aside0.mk hB
 have HL := Aside0.mk (laid_below hL hB)
 have HL0 := Aside0.mk hL
 have HG1 := Aside0.mk (blk_new w (.cells #[.int .i64 a2] 3))
 have hb : decide (a2 < 1) = false := decide_eq_false (by omega)
 have hb2 : decide (a2 > 65536) = false := decide_eq_false (by omega)
 have hb3 : decide (65536 < a2) = false := decide_eq_false (by omega)
 obtain ⟨i0, hi0, _, hsz0, _⟩ := info_parts info5
 obtain ⟨A9, hcut, hA9, hC9⟩ := print_mid_of (P := Tryd.prog) (Value.int .u8) 0 29 5 .i64 .i64 Tryd.underlying29 hi0 hsz0 A0 c0 l0 s m g0 g1 g2 hc0
 have HR9 := Aside0.mk (Kd.C_of_reads (h1 := fun _ => rfl) (hA9 _ (Kd.reads_of_C hr0)))
 have HC9 := Aside0.mk hC9
 have hm_ : (if ct < p then ct else p) = m := hm
 have hll : ((l0.take m.toNat).drop s.toNat).length ≤ l0.length := by simp; omega
 have HLL := Aside0.mk hll
 clear hr0 ho hw hL hl hi0 hsz0 hB hA9 hC9 hm hll
 replace g0 := eq_true g0
 replace g1 := eq_true g1
 replace g2 := eq_true g2
 generalize (l0.take m.toNat).drop s.toNat = l9 at *
 simp only [Tryd.ntmps26, List.size_toArray, List.length_cons, List.length_nil, Nat.reduceAdd, Nat.reduceSub, Array.replicate_succ, Array.replicate_zero, List.push_toArray, List.append_toArray, List.nil_append, List.cons_append]
 gi_wp2_with (fail)
 refine ⟨trivial, ?_⟩
 gi_at_call 44
 refine (callsIn_wide.2 (words_outside.calls A0 c0 l0 a1 false _ HR.out hc0 HO.out)).mono ?_
 rintro e w' ⟨rfl, ⟨nd, rfl⟩⟩
 have c0w := blk_cell (blk_drewN HG1.out nd) 0
 gi_wp2_with (fail)
 refine ⟨trivial, ?_⟩
 gi_at_call 45
 refine (callsIn_wide.2 (lines_Where.calls _ A0 c0 l0 a1 p r2 r3 ln r5 r6 r7 0 _ (Kd.C_drewN HR.out _) hc0 (laid_below HL.out (pw_below_drewN (Below.refl _ _) _)) HW.out)).mono ?_
 rintro e w5 ⟨rfl, hb5⟩
 have HB5 := Aside0.mk ((pw_below_drewN HBa.out nd).trans (hb5.mono (pw_below_drewN HBa.out nd).size))
 have HG5 := Aside0.mk (blk_below (blk_drewN HG1.out nd) hb5)
 have hs5 : w.heap.size + 1 ≤ w5.heap.size := by have := hb5.size; simpa using this
 clear hb5 c0w HG1 HBa HL HR
 have c5 := blk_cell HG5.out 0
 gi_wp2_with (fail)
 refine ⟨trivial, ?_⟩
 gi_at_call 46
 refine (callsIn_wide.2 (lines_Line.calls A0 c0 l0 ln s ct y3 y4 _ (Kd.C_below HR0.out (HB5.out.alloc HB5.out.size _)) hc0 HLN.out)).mono ?_
 rintro e w6 ⟨rfl, hb6⟩
 have HB6 := Aside0.mk ((HB5.out.alloc HB5.out.size (.cells #[.int .i64 p, .int .i64 r2, .int .i64 r3, .int .i64 ln, .int .i64 r5, .int .i64 r6, .int .i64 r7] 87)).trans (hb6.mono (HB5.out.alloc HB5.out.size _).size))
 have HG6 := Aside0.mk (blk_below (blk_alloc HG5.out _) hb6)
 have hg8 := blk_below (blk_new w5 (.cells #[.int .i64 p, .int .i64 r2, .int .i64 r3, .int .i64 ln, .int .i64 r5, .int .i64 r6, .int .i64 r7] 87)) hb6
 have hs6 : w5.heap.size + 1 ≤ w6.heap.size := by have := hb6.size; simpa using this
 have c8 := blk_cell (blk_alloc hg8 (.cells #[.int .i64 0] 3)) 0
 have hcutS := hcut
 clear hb6 hg8 c5 hb hb2 hb3
 have HR6 := Aside0.mk (Kd.C_below HR9.out (HB6.out.alloc HB6.out.size (.cells #[.int .i64 0] 3)))
 gi_wp2_with (refine ⟨trivial, ?_⟩; gi_at_call 47; refine (callsIn_wide.2 (step_All.calls A9 (c0 - s.toNat) l9 _ HR6.out HC9.out)).mono ?_; rintro e w' ⟨rfl, rfl⟩)
 obtain ⟨W1, hW1⟩ : ∃ W1, (w6.alloc (.cells #[.int .i64 0] 3)).alloc (.cells #[.string (strOfNums l9)] 9) = W1 := ⟨_, rfl⟩
 have hb1 : W1.heap[w.heap.size]? = some (.cells #[.int .i64 a2] 3 (0, 0)) := by rw [← hW1]; exact blk_alloc (blk_alloc HG6.out _) _
 have hn1 : W1.heap[w6.heap.size]? = some (.cells #[.int .i64 0] 3 (0, 0)) := by rw [← hW1]; exact blk_alloc (blk_new w6 _) _
 have bs1 : W1.heap[w6.heap.size + 1]? = some (.cells #[.string (strOfNums l9)] 9 (0, 0)) := by
  rw [← hW1]; have := blk_new (w6.alloc (.cells #[.int .i64 0] 3)) (.cells #[.string (strOfNums l9)] 9); rwa [World.size_alloc] at this
 have hB1 : Below w.heap.size w W1 := by rw [← hW1]; exact (HB6.out.alloc HB6.out.size _).alloc (by have := HB6.out.size; simp; omega) _
 have hs1 : W1.heap.size = w6.heap.size + 2 := by rw [← hW1]; simp
 have hL1 := laid_below HL0.out hB1
 have hpos : 0 < w.heap.size := laid_lt HL0.out
 have hns : (strOfNums l9).size ≤ 4398046511104 := by rw [strOfNums_size]; exact Nat.le_trans HLL.out hlim
 rw [hW1]
 clear hW1 c8 HR6 HR9 HR0 HC9 hcut hcutS g0 g1 g2 hm_
 have hs6w := HB6.out.size
 refine wpIn_rangeFunc_ownH rfl (by decide) (gf := 72) (lb := #[.pointer (some ⟨w6.heap.size + 1, 0, none⟩)]) rfl trivial (enters_of Tryd.func72 (by kernel_rfl) rfl)
  (step_All1.stops (10 - 1) (w6.heap.size + 1) w.heap.size (by decide) (strOfNums l9) (by omega) hpos W1 bs1 hB1.size hL1) KpBox.t (KpBox.b hB1.size (by omega)) (Below.refl _ _) (fun _ => rfl)
  (fun pre V => (Below w.heap.size w V ∧ V.heap[w6.heap.size + 1]? = some (.cells #[.string (strOfNums l9)] 9 (0, 0))) ∧ V.heap[w.heap.size]? = some (.cells #[.int .i64 a2] 3 (0, 0)) ∧
   V.heap[w6.heap.size]? = some (.cells #[.int .i64 (pre.foldl (colStep a2) 0)] 3 (0, 0)))
  (fun _ _ _ => False)
  (fun s X Y row hs hg hr => ⟨⟨ownFrom_below (Nat.le_refl _) hB1.size s X Y row hs.1.1 hg hr, blk_abides hs.1.2 hg (fun r e => (hr r e).2)⟩, blk_abides hs.2.1 hg (fun r e => (hr r e).2), blk_abides hs.2.2 hg (fun r e => (hr r e).2)⟩)
  (fun _ _ _ _ _ hs _ _ => hs)
  ⟨⟨hB1, bs1⟩, hb1, hn1⟩
  (fun x a' V => ∃ Bx, W1.heap.size ≤ Bx ∧ V.heap[Bx]? = some (.cells #[.int .i32 x.2.1, .int .i64 x.2.2.1, .bool x.2.2.2] 23 (0, 0)) ∧ a' = { tmps := #[.slice A0 l0.length c0, .int .i64 a1, .int .i64 a2, undef, undef, .pointer (some ⟨w.heap.size, 0, none⟩), .int .i64 0, .int .i64 0, .pointer (some ⟨w5.heap.size, 0, none⟩), .int .i64 0, .int .i64 s, .int .i64 ct, .int .i64 y3, .int .i64 y4, .pointer (some ⟨w6.heap.size, 0, none⟩), undef, .pointer (some ⟨Bx, 0, none⟩), .slice A0 l0.length c0, .int .i64 a1, .bool false, .bool false, .int .i64 a2, .bool false, .bool false, .bool false, .int .i64 a2, .bool false, .bool false, (.tuple #[.agg #[.int .i64 p, .int .i64 r2, .int .i64 r3, .int .i64 ln, .int .i64 r5, .int .i64 r6, .int .i64 r7], .int .i64 0]), .slice A0 l0.length c0, .int .i64 a1, (.tuple #[.agg #[.int .i64 p, .int .i64 r2, .int .i64 r3, .int .i64 ln, .int .i64 r5, .int .i64 r6, .int .i64 r7], .int .i64 0]), (.agg #[.int .i64 p, .int .i64 r2, .int .i64 r3, .int .i64 ln, .int .i64 r5, .int .i64 r6, .int .i64 r7]), .int .i64 0, .int .i64 0, .bool false, undef, (.tuple #[.int .i64 s, .int .i64 ct, .int .i64 y3, .int .i64 y4]), .slice A0 l0.length c0, .pointer (some ⟨w5.heap.size, 3, none⟩), .int .i64 ln, (.tuple #[.int .i64 s, .int .i64 ct, .int .i64 y3, .int .i64 y4]), .int .i64 s, .int .i64 ct, .int .i64 y3, .int .i64 y4, .slice A0 l0.length c0, .int .i64 s, .pointer (some ⟨w5.heap.size, 0, none⟩), .int .i64 p, .int .i64 ct, .int .i64 m, .slice A9 l9.length (c0 - s.toNat), .func (.func 72) #[] #[.pointer (some ⟨w6.heap.size + 1, 0, none⟩)], .int .i64 x.1, .agg #[.int .i32 x.2.1, .int .i64 x.2.2.1, .bool x.2.2.2], undef, undef, undef, undef, undef, undef, undef, undef, undef, undef, undef, undef, undef, undef, undef, undef], defers := [] })
  (fun x a' _ X Y row hs hg hr => by obtain ⟨Bx, h1, h2, h3⟩ := hs; exact ⟨Bx, h1, blk_abides h2 hg (fun r e => (hr r e).2), h3⟩)
  ?assign ?body ?done ?stop
 case assign =>
  rintro l' pre x V K ⟨⟨hB, hbs⟩, hb, hn⟩ hK
  gi_wp2
  have hlt := blk_lt hbs
  exact hK _ _ ((KeepsOthers.alloc _ _).from _) (KpBox.of ((Below.refl _ V).alloc hB.size _) ((blk_alloc hbs _).trans hbs.symm) (KeepsOthers.alloc _ _)) ⟨⟨hB.alloc hB.size _, blk_alloc hbs _⟩, blk_alloc hb _, blk_alloc hn _⟩ ⟨V.heap.size, by omega, blk_new V _, rfl⟩
 case body =>
  rintro l' pre x a' V hl' ⟨r, hr⟩ ⟨⟨hB, hbs⟩, hb, hn⟩ ⟨Bx, hBx, hbx, rfl⟩ hlen
  obtain ⟨xp, xr, xw, xb⟩ := x
  dsimp only at hbx ⊢
  refine wpIn_mono (Q := ColPost W1.heap.size (KpBox w.heap.size (w6.heap.size + 1)) (fun V2 => (Below w.heap.size w V2 ∧ V2.heap[w6.heap.size + 1]? = some (.cells #[.string (strOfNums l9)] 9 (0, 0))) ∧ V2.heap[w.heap.size]? = some (.cells #[.int .i64 a2] 3 (0, 0)) ∧
   V2.heap[w6.heap.size]? = some (.cells #[.int .i64 (colStep a2 (pre.foldl (colStep a2) 0) (xp, xr, xw, xb))] 3 (0, 0))) V) ?walk ?post
  case post =>
   rintro e a9 V2 ⟨rfl, g1, g2, g3⟩
   exact ⟨g1, g2, g3.1, g3.2.1, by rw [List.foldl_append]; exact g3.2.2⟩
  generalize pre.foldl (colStep a2) 0 = nn at *
  have cb := blk_cell hb 0
  have cn := blk_cell hn 0
  have fn0 := blk_frozen hn 0
  have cx0 := blk_cell hbx 0
  have cx1 := blk_cell hbx 1
  have cx2 := blk_cell hbx 2
  have hne : ¬ a2 = 0 := by omega
  have hmx : Tryd.prog.follows .mixedOrders = true := by kernel_rfl
  have HSB := Aside0.mk hbs
  have HSW := Aside0.mk hb
  have HSN := Aside0.mk hn
  have hlt := blk_lt hbs
  have hw0 := blk_lt hb
  clear hbs hb hbx hr
  cases xb with
  | false =>
   have hst : colStep a2 nn (xp, xr, xw, false) = wrap64 (nn + 1) := by simp [colStep]
   rw [hst]
   clear hst
   gi_wp2
   exact colPost_of w _ _ _ _ _ nn _ V V _ (KeepsOthers.refl _) (Below.refl _ _) hB HSB.out HSW.out HSN.out rfl (by omega) (by omega) (by omega)
  | true =>
   by_cases hx : xr = 9
   ·have hst : colStep a2 nn (xp, xr, xw, true) = wrap64 (wrap64 (wrap64 (nn.tdiv a2) + 1) * a2) := by simp [colStep, hx]
    rw [hst]
    clear hst
    have hxb : (xr == 9) = true := by simpa using hx
    gi_wp2
    gi_region_with_o (skip)
    all_goals gi_wp2
    all_goals simp only [i64_w]
    all_goals exact (show (V.drew.setCell ⟨w6.heap.size, 0, none⟩ (.int .i64 (wrap64 (wrap64 (wrap64 (nn.tdiv a2) + 1) * a2)))) = (V.setCell ⟨w6.heap.size, 0, none⟩ (.int .i64 (wrap64 (wrap64 (wrap64 (nn.tdiv a2) + 1) * a2)))).drew from rfl) ▸ colPost_of w _ _ _ _ _ nn _ V V.drew _ (KeepsOthers.drew _) ((Below.refl _ _).drew) hB HSB.out HSW.out HSN.out rfl (by omega) (by omega) (by omega)
   ·have hst : colStep a2 nn (xp, xr, xw, true) = wrap64 (nn + 1) := by simp [colStep, hx]
    rw [hst]
    clear hst
    have hxb : (xr == 9) = false := by simpa using hx
    gi_wp2
    exact colPost_of w _ _ _ _ _ nn _ V V _ (KeepsOthers.refl _) (Below.refl _ _) hB HSB.out HSW.out HSN.out rfl (by omega) (by omega) (by omega)
 case done =>
  rintro D zs V hD rfl ⟨⟨hB, hbs⟩, hb, hn⟩ hK
  have cn := blk_cell hn 0
  gi_wp2
  refine ⟨by simp, .inl ⟨_, _, rfl, run_takeDeferred hK, ?_⟩⟩
  exact ⟨_, results_tmp2 rfl _ _ _, rfl, hB.trans (belowK_b (w := w) (Nat.le_refl _) V D _ _ (by omega) hK rfl rfl)⟩
 case stop =>
  rintro D c pre W _ _ h _
  exact h.elim

theorem words_Column.calls (A0 : Option Addr) (c0 : Nat) (l0 : List Int) (a1 a2 : Int) (r1 r2 : Int) (w : World) (hr0 : Kd.C (Kd.int .u8) w A0 l0.length l0) (hc0 : l0.length ≤ c0) (hL : LaidBad w) (h : words_Column.f l0 a1 a2 = some (r1, r2)) :
  Calls Tryd.prog 26 #[.slice A0 l0.length c0, .int .i64 a1, .int .i64 a2] w fun e w' => e = .returned (.tuple #[.int .i64 r1, .int .i64 r2]) ∧ Below w.heap.size w w' := by
 unfold words_Column.f at h
 obtain ⟨o, ho, h⟩ := Option.bind_eq_some_iff.mp h
 by_cases h0 : o = true
 ·rw [if_pos h0] at h
  cases h
  exact words_Column.bad A0 c0 l0 a1 a2 o w hr0 hc0 ho (.inl h0)
 rw [if_neg h0] at h
 by_cases h1 : a2 < 1
 ·rw [if_pos h1] at h
  cases h
  exact words_Column.bad A0 c0 l0 a1 a2 o w hr0 hc0 ho (.inr (.inl h1))
 rw [if_neg h1] at h
 by_cases h2 : a2 > 65536
 ·rw [if_pos h2] at h
  cases h
  exact words_Column.bad A0 c0 l0 a1 a2 o w hr0 hc0 ho (.inr (.inr h2))
 rw [if_neg h2] at h
 obtain rfl : o = false := by simpa using h0
 obtain ⟨⟨p, r2', r3, ln, r5, r6, r7, r8⟩, hw, h⟩ := Option.bind_eq_some_iff.mp h
 dsimp only at h
 by_cases he : r8 = 0
 ·rw [if_pos he] at h
  subst he
  obtain ⟨⟨s, ct, y3, y4⟩, hl, h⟩ := Option.bind_eq_some_iff.mp h
  dsimp only at h
  by_cases g0 : 0 ≤ s
  ·rw [if_pos g0] at h
   by_cases g1 : s ≤ mn p ct
   ·rw [if_pos g1] at h
    by_cases g2 : mn p ct ≤ (l0.length : Int)
    ·rw [if_pos g2] at h
     by_cases g3 : l0.length ≤ 4398046511104
     ·rw [if_pos g3] at h
      cases h
      exact callsIn_wide.1 (words_Column.walk A0 c0 l0 a1 a2 p r2' r3 ln r5 r6 r7 s ct y3 y4 w hr0 hc0 hL ho (by omega) (by omega) hw hl _ rfl g0 g1 g2 g3)
     ·rw [if_neg g3] at h
      cases h
    ·rw [if_neg g2] at h
     cases h
   ·rw [if_neg g1] at h
    cases h
  ·rw [if_neg g0] at h
   cases h
 ·rw [if_neg he] at h
  cases h
  exact words_Column.err A0 c0 l0 a1 a2 p r2' r3 ln r5 r6 r7 _ w hr0 hc0 hL ho (by omega) (by omega) hw he

end Go.Proofs.YtijbkiajhicooaaDoor.PW

namespace Go.Proofs.YtijbkiajhicooaaDoor.PW
open Go.RowKit Go.Proofs.YtijbkiajhicooaaDoorW.PrintWords Go.Proofs.YtijbkiajhicooaaDoorW.PrintLast Go.Proofs.YtijbkiajhicooaaDoorW.PrintMore
attribute [local go_sem] max2_int min2_int max_two min_two max_three min_three max_four min_four   -- for this text's walks alone
set_option linter.unusedVariables false
set_option linter.unusedSimpArgs false

def lines_Count.f (l0 : List Int) : Option (Int) := (lines_all.f l0).bind fun t168 => (some (t168.length : Int))
set_option maxHeartbeats 8000000 in
set_option maxRecDepth 100000 in
theorem lines_Count.calls (A0 : Option Addr) (c0 : Nat) (l0 : List Int) (r : Int) (w : World) (hr0 : Kd.C (Kd.int .u8) w A0 l0.length l0) (hc0 : l0.length ≤ c0) (h : lines_Count.f l0 = some r) :
  Calls Tryd.prog 52 #[.slice A0 l0.length c0] w fun e w' => e = .returned (.int .i64 r) ∧ Below w.heap.size w w' := by
 have HR0 := Aside0.mk hr0
 have HC0 := Aside0.mk hc0
 clear hr0 hc0
 have HB := Aside0.mk (Below.refl w.heap.size w)
 have H : ((lines_all.f l0).bind fun t168 => (some (t168.length : Int))) = some r := h
 clear h
 replace H := Option.bind_eq_some_iff.mp H
 obtain ⟨t168, A20, H⟩ := H
 replace H : (some (t168.length : Int)) = some r := H
 have A2 := Aside0.mk A20
 clear A20
 obtain rfl := Option.some.inj H
 go_enter Tryd.func52, Tryd.ntmps52
 go_wp2_with (first | ((with_reducible refine gate_callee (f := 69) rfl ?_); refine goesL_ (some 4) rfl rfl Tryd.func69 (by kernel_rfl) rfl #[.slice A0 l0.length c0] rfl (by (try simp only [List.map_toArray, List.map_cons, List.map_nil]); first | done | rfl | (simp only [List.length_drop, List.length_take]; rfl)) ?_; (with_reducible refine (lines_all.calls _ _ l0 t168 _ ?side1 ?side2 A2.out).mono ?_); (case side1 => repeat (first | exact HR0.out | (with_reducible refine Kd.C_alloc ?_ _) | (with_reducible refine Kd.C_drewN ?_ _) | (with_reducible refine Kd.C_drew ?_))); (case side2 => exact HC0.out); rintro e w3 ⟨v169, rfl, ho0, hb⟩; refine ⟨_, rfl, ?_⟩; have n0_ := Aside0.mk (Kd.R_lower ho0 (below_size (by repeat (first | (with_reducible first | exact HB.out | apply below_alloc | apply pw_below_drewN | apply below_drew1) | exact HB.out)))); have n1_ := Aside0.mk (below_step (by repeat (first | (with_reducible first | exact HB.out | apply below_alloc | apply pw_below_drewN | apply below_drew1) | exact HB.out)) hb); clear HB; have HO170 := n0_; have HB := n1_; clear n0_ n1_; (try clear hb); (try clear hb2); (try clear hk); (try clear hi); (try clear ho0); obtain ⟨Ao4, co4, eo4⟩ := Kd.R_slice HO170.out; subst eo4))
 go_ret
 exact ⟨by first | rfl | (simp [errW_none, errW_some] <;> rfl) | (simp [*, errW_none, errW_some] <;> rfl), by repeat (first | (with_reducible first | exact HB.out | apply below_alloc | apply pw_below_drewN | apply below_drew1) | exact HB.out)⟩

end Go.Proofs.YtijbkiajhicooaaDoor.PW

namespace Go.Proofs.YtijbkiajhicooaaDoor.PW
open Go.RowKit Go.Proofs.YtijbkiajhicooaaDoorW.PrintWords Go.Proofs.YtijbkiajhicooaaDoorW.PrintLast Go.Proofs.YtijbkiajhicooaaDoorW.PrintMore
attribute [local go_sem] max2_int min2_int max_two min_two max_three min_three max_four min_four   -- for this text's walks alone
set_option linter.unusedVariables false
set_option linter.unusedSimpArgs false

def intVal : Value → Int
 | .int _ n => n
 | _ => 0
def edgesOf (xs : List PStep) : List Int := 0 :: xs.map fun x => wrap64 (x.1 + x.2.2.1)
def blanksOf (xs : List PStep) : List Bool := false :: xs.map fun x => kindOf x.2.1 x.2.2.2 == 1
/-- Back from p to the last blank edge behind s. -/
def scanB (bl : List Bool) (s : Int) : Nat → Int → Int
 | 0, p => p
 | k + 1, p => if s < p ∧ rdOf false bl p = false then scanB bl s k (p - 1) else p
/-- The break behind s. -/
def cutOf (bl : List Bool) (w s : Int) : Int := if scanB bl s w.toNat (s + w) = s then s + w else scanB bl s w.toNat (s + w)
def wrapGo (es : List Int) (bl : List Bool) (start w : Int) : Nat → Int → List Int → List Int
 | 0, _, out => out
 | k + 1, s, out => if w < (es.length : Int) - 1 - s then wrapGo es bl start w k (cutOf bl w s) (out ++ [wrap64 (start + rd es (cutOf bl w s))]) else out
def wrapsOf (l0 : List Int) (start w : Int) : List Int := wrapGo (edgesOf (allSteps (strOfNums l0))) (blanksOf (allSteps (strOfNums l0))) start w (edgesOf (allSteps (strOfNums l0))).length 0 []
def words_wrapped.f (l0 : List Int) (a1 a2 : Int) : Option (List Int) := if l0.length ≤ 4398046511103 ∧ 1 ≤ a2 ∧ a2 ≤ 65536 then some (wrapsOf l0 a1 a2) else none
theorem scanB_le (bl : List Bool) (s : Int) : ∀ (k : Nat) (p : Int), s ≤ p → s ≤ scanB bl s k p ∧ scanB bl s k p ≤ p := by
 intro k
 induction k with
 | zero => intro p h; exact ⟨h, Int.le_refl _⟩
 | succ k ih =>
  intro p h
  unfold scanB
  by_cases hc : s < p ∧ rdOf false bl p = false
  ·rw [if_pos hc]
   have := ih (p - 1) (by omega)
   omega
  ·rw [if_neg hc]
   exact ⟨h, Int.le_refl _⟩
theorem cutOf_le (bl : List Bool) (w s : Int) (hw : 1 ≤ w) : s < cutOf bl w s ∧ cutOf bl w s ≤ s + w := by
 unfold cutOf
 have := scanB_le bl s w.toNat (s + w) (by omega)
 split <;> omega
theorem R_append_stepIn {F : Fence} {nF : Nat} {P : Program} {ops : Array Oper} {o : Oper} {a : Act} {Q : Exit → Act → World → Prop} {Kc : Act → World → Prop} {α : Type} (d : Kd α) {w0 W : World} (base : Nat) (hw : Region.wanted o (yielded ops a.tmps) = true) (s x : Operand) (t e : TypeId) (z : Value) (bytes : Nat)
  (ho : o.op = .call { callee := .builtin .append, args := #[s, x], argTypes := #[t, t] })
  (ht : P.underlying t = some (.slice e)) (hinfo : (P.info? e).map (fun i => (i.zero, i.size, i.bytes)) = some (some z, d.sz, bytes)) (hz : z.cells.size = d.sz) (hs0 : 0 < d.sz) (hb0 : 0 < bytes)
  (v : Value) (xs : List α) (p : α) (cs : List Value) (ok okp : Nat → Prop) (hs : a.eval s = v) (hx : a.eval x = .slice (some ⟨W.heap.size, 0, none⟩) 1 1) (hp : d.M W base okp p cs) (hokp : ∀ k, okp k → ok k ∧ some k ≠ v.ownBlock) (hfresh : ∀ k, W.heap.size ≤ k → ok k)
  (HO : d.R e W base ok v xs) (HB : Below base w0 W) (hbase : base ≤ W.heap.size) (hl : (xs.length + 1) * bytes ≤ 140737488355328)
  (h : ∀ v1 w1, d.R e w1 base ok v1 (xs ++ [p]) → Below base w0 w1 → W.grownBy w1 v.ownBlock → Kc (a.put o.dst v1) w1) :
  if Region.wanted o (yielded ops a.tmps) = true then Oper.wpIn F nF P o a (W.alloc (.cells cs.toArray e)) Kc Q else (∀ f, o.about P (W.alloc (.cells cs.toArray e)) a.eval = some f → F.fn f) ∧ Kc (a.put o.dst undef) (W.alloc (.cells cs.toArray e)) := by
 obtain ⟨h0, inner, hown, hr⟩ := HO
 obtain ⟨i0, hi, hzz⟩ := Option.map_eq_some_iff.1 hinfo
 simp only [Prod.mk.injEq] at hzz
 obtain ⟨hz0, hz1, hz2⟩ := hzz
 have hlen : xs.length + 1 ≤ 140737488355328 := Nat.le_trans (Nat.le_mul_of_pos_right _ hb0) hl
 have hys : cs.length = d.sz := d.K_len (d.K_of_M hp)
 rw [if_pos hw]
 obtain ⟨v1, w1, hrr, hown1, hg, _, hat⟩ := run_append_own_at (P := P) (W.alloc (.cells cs.toArray e)) base t o.type e i0 z d.sz bytes ht hi hz0 hz1 hz2 hz hs0 v xs.length inner (hown.alloc _) ⟨W.heap.size, 0, none⟩ 1 1 cs (by rw [hys]; simp)
  (by simpa using World.news_of_block (cs := cs.toArray) (t := e) (fr := (0, 0)) (heap_alloc_new W (.cells cs.toArray e))) (d.K_one (d.K_of_M hp)) (by simp only [maxLen]; omega) hl (by simp; omega)
 have hg1 : W.grownBy w1 v.ownBlock := World.grownBy.trans (World.grownBy_alloc W _ _) hg
 have hat1 : v1.ownBlock = v.ownBlock ∨ ∃ b, v1.ownBlock = some b ∧ W.heap.size ≤ b := by
  rcases hat with hat | hat
  ·exact .inl hat
  ·exact .inr ⟨_, hat, by simp⟩
 unfold Oper.wpIn
 refine ⟨by simp [Oper.about, ho, resolve, Target.leads, Sem.run_pure], ?_⟩
 rw [Oper.semAt_plain F _ _ (by rw [ho]; intro c hc'; cases hc')]
 simp [execOp, ho, resolve, invoke, builtin, hs, hx, hrr, Result.andThen]
 exact h v1 w1 (Kd.R_appended h0 hr hp hokp hfresh hown1 hg1 hat1) (HB.grown hg1 hbase (own_base hown)) hg1
theorem wr_infoB : (Tryd.prog.info? 4).map (fun i => (i.zero, i.size, i.bytes)) = some (some (.bool false), 1, 1) := by kernel_rfl
theorem R_oneI (w W : World) (hB : Below w.heap.size w W) (n : Int) : (Kd.int .i64).R 3 (W.alloc (.cells #[.int .i64 n] 3)) w.heap.size (fun _ => True) (.slice (some ⟨W.heap.size, 0, none⟩) 1 1) [n] := by
 have h2 := World.ownsRow_lit (base := w.heap.size) (e := 3) (size := 1) W #[.int .i64 n] 1 hB.size (by simp [maxLen]) (by simp)
 exact ⟨fun _ _ => trivial, [.int .i64 n], (by simpa using h2 : World.ownsRow _ _ _ 1 _ 1 _), Kd.reps_scalar [n]⟩
theorem R_oneB (w W : World) (hB : Below w.heap.size w W) (n : Bool) : Kd.bool.R 4 (W.alloc (.cells #[.bool n] 4)) w.heap.size (fun _ => True) (.slice (some ⟨W.heap.size, 0, none⟩) 1 1) [n] := by
 have h2 := World.ownsRow_lit (base := w.heap.size) (e := 4) (size := 1) W #[.bool n] 1 hB.size (by simp [maxLen]) (by simp)
 exact ⟨fun _ _ => trivial, [.bool n], (by simpa using h2 : World.ownsRow _ _ _ 1 _ 1 _), Kd.reps_scalar [n]⟩
/-- How a round of the loop is left. -/
def WrapPost (B n₀ : Nat) (s : ByteArray) (es : List Int) (bs : List Bool) (w W : World) : Exit → Act → World → Prop := fun e _ V => e = .normal ∧ KeepsFrom B W V ∧ KpBox n₀ (n₀ + 4) W V ∧ Below n₀ w V ∧
 ∃ vE vB, V.heap[n₀ + 1]? = some (.cells #[vE] 69 (0, 0)) ∧ V.heap[n₀ + 3]? = some (.cells #[vB] 147 (0, 0)) ∧ (Kd.int .i64).R 3 V n₀ (fun _ => True) vE es ∧ Kd.bool.R 4 V n₀ (fun _ => True) vB bs
theorem wrapPost_of {B : Nat} {w V X Xk w2 : World} {s : ByteArray} {es : List Int} {bs bs2 : List Bool} {vE vB vB' v3 : Value} (a' : Act) (hB : Below w.heap.size w V) (hbs : V.heap[w.heap.size + 4]? = some (.cells #[.string s] 9 (0, 0))) (hb4 : Below w.heap.size V X) (ho4 : KeepsOthers V X)
  (hE4 : X.heap[w.heap.size + 1]? = some (.cells #[vE] 69 (0, 0))) (hbs4 : X.heap[w.heap.size + 4]? = some (.cells #[.string s] 9 (0, 0))) (HRE : (Kd.int .i64).R 3 X w.heap.size (fun _ => True) vE es) (HRB : Kd.bool.R 4 X w.heap.size (fun _ => True) vB bs)
  (hbk : Below X.heap.size X Xk) (HG4 : Xk.grownBy w2 vB.ownBlock) (HB5 : Below w.heap.size X w2) (HBE : w2.heap[w.heap.size + 3]? = some (.cells #[vB'] 147 (0, 0))) (HR4 : Kd.bool.R 4 w2 w.heap.size (fun _ => True) v3 bs2) :
  WrapPost B w.heap.size s es bs2 w V .normal a' (w2.setCell ⟨w.heap.size + 3, 0, none⟩ v3) := by
 have hRBk := Kd.R_below HRB hbk
 have hK : KeepsOthers X Xk := KeepsOthers.of_grownBy (grown_of_below hbk none) (fun j o hj _ => by cases hj)
 have hO : KeepsOthers V (w2.setCell ⟨w.heap.size + 3, 0, none⟩ v3) := ((ho4.trans hK).trans (keepsOthers_R hRBk HG4)).trans (KeepsOthers.setCell _ _ _)
 have hb : Below w.heap.size V (w2.setCell ⟨w.heap.size + 3, 0, none⟩ v3) := (hb4.trans HB5).setCell (p := ⟨w.heap.size + 3, 0, none⟩) (by show w.heap.size ≤ w.heap.size + 3; omega) _
 have hbsk := blk_below hbs4 hbk
 have hs2 := blk_far (blk_grown hbsk HG4 (R_ne_blk hRBk hbsk (by decide))) (p := ⟨w.heap.size + 3, 0, none⟩) (by simp) v3
 have hEk := blk_below hE4 hbk
 have hE2 := blk_far (blk_grown hEk HG4 (R_ne_blk hRBk hEk (by decide))) (p := ⟨w.heap.size + 3, 0, none⟩) (by simp) v3
 exact ⟨rfl, hO.from _, KpBox.of hb (hs2.trans hbs.symm) hO, hB.trans hb, vE, v3, hE2, blk_set HBE 0 _, Kd.R_set (Kd.R_over' (Kd.R_below HRE hbk) (Kd.R_typed hRBk) (by decide) HG4) HBE (by decide) _ _, Kd.R_set HR4 HBE (by decide) _ _⟩
attribute [local go_sem] Oper.semAt_some
set_option maxRecDepth 100000 in
set_option maxHeartbeats 4000000 in
theorem words_wrapped.walk (A0 : Option Addr) (c0 : Nat) (l0 : List Int) (a1 a2 : Int) (w : World) (hr0 : Kd.C (Kd.int .u8) w A0 l0.length l0) (hc0 : l0.length ≤ c0) (hL : LaidBad w) (hlim : l0.length ≤ 4398046511103) (hw1 : 1 ≤ a2) (hw2 : a2 ≤ 65536) :
  CallsIn Fence.wide 10 Tryd.prog 66 #[.slice A0 l0.length c0, .int .i64 a1, .int .i64 a2] w fun e w' => ∃ v0_ : Value, e = .returned (v0_) ∧ Kd.R (Kd.int .i64) 3 w' w.heap.size (fun _ => True) v0_ (wrapsOf l0 a1 a2) ∧ Below w.heap.size w w' := by
 refine callsIn_of_wp_marks Tryd.func66 rfl trivial ?_ rfl
 simp only [Tryd.ntmps66, List.size_toArray, List.length_cons, List.length_nil, Nat.reduceAdd, Nat.reduceSub, Array.replicate_succ, Array.replicate_zero, List.push_toArray, List.append_toArray, List.nil_append, List.cons_append]
 obtain ⟨W1, hW1⟩ : ∃ W1, (((w.alloc (.cells #[.int .i64 0] 3)).alloc (.cells #[.slice (some ⟨w.heap.size, 0, none⟩) 1 1] 69)).alloc (.cells #[.bool false] 4)).alloc (.cells #[.slice (some ⟨w.heap.size + 2, 0, none⟩) 1 1] 147) = W1 := ⟨_, rfl⟩
 have hB1 : Below w.heap.size w W1 := by rw [← hW1]; exact ((((Below.refl _ w).alloc (Nat.le_refl _) _).alloc (by simp) _).alloc (by simp; omega) _).alloc (by simp; omega) _
 have HR1 := Aside0.mk (Kd.C_below hr0 hB1)
 have HR0 := Aside0.mk hr0
 clear hr0
 gi_wp2_with (refine ⟨trivial, ?_⟩; gi_at_call 47; refine (callsIn_wide.2 (step_All.calls A0 c0 l0 _ HR1.out hc0)).mono ?_; rintro e w' ⟨rfl, rfl⟩)
 have hE1 : W1.heap[w.heap.size + 1]? = some (.cells #[.slice (some ⟨w.heap.size, 0, none⟩) 1 1] 69 (0, 0)) := by
  rw [← hW1]; have := blk_new (w.alloc (.cells #[.int .i64 0] 3)) (.cells #[.slice (some ⟨w.heap.size, 0, none⟩) 1 1] 69); rw [World.size_alloc] at this; exact blk_alloc (blk_alloc this _) _
 have hK1 : W1.heap[w.heap.size + 3]? = some (.cells #[.slice (some ⟨w.heap.size + 2, 0, none⟩) 1 1] 147 (0, 0)) := by
  rw [← hW1]; have := blk_new (((w.alloc (.cells #[.int .i64 0] 3)).alloc (.cells #[.slice (some ⟨w.heap.size, 0, none⟩) 1 1] 69)).alloc (.cells #[.bool false] 4)) (.cells #[.slice (some ⟨w.heap.size + 2, 0, none⟩) 1 1] 147); rwa [World.size_alloc, World.size_alloc, World.size_alloc] at this
 have hRE1 : (Kd.int .i64).R 3 W1 w.heap.size (fun _ => True) (.slice (some ⟨w.heap.size, 0, none⟩) 1 1) [0] := by
  rw [← hW1]; exact Kd.R_alloc (Kd.R_alloc (Kd.R_alloc (R_oneI w w (Below.refl _ _) 0) _) _) _
 have hRB1 : Kd.bool.R 4 W1 w.heap.size (fun _ => True) (.slice (some ⟨w.heap.size + 2, 0, none⟩) 1 1) [false] := by
  rw [← hW1]
  have h := R_oneB w ((w.alloc (.cells #[.int .i64 0] 3)).alloc (.cells #[.slice (some ⟨w.heap.size, 0, none⟩) 1 1] 69)) (((Below.refl _ w).alloc (Nat.le_refl _) _).alloc (by simp) _) false
  rw [World.size_alloc, World.size_alloc] at h
  exact Kd.R_alloc h _
 have hs1 : W1.heap.size = w.heap.size + 4 := by rw [← hW1]; simp
 clear hW1
 obtain ⟨W2, hW2⟩ : ∃ W2, W1.alloc (.cells #[.string (strOfNums l0)] 9) = W2 := ⟨_, rfl⟩
 have bs2 : W2.heap[w.heap.size + 4]? = some (.cells #[.string (strOfNums l0)] 9 (0, 0)) := by rw [← hW2, ← hs1]; exact blk_new W1 _
 have hB2 : Below w.heap.size w W2 := by rw [← hW2]; exact hB1.alloc hB1.size _
 have hE2 : W2.heap[w.heap.size + 1]? = some (.cells #[.slice (some ⟨w.heap.size, 0, none⟩) 1 1] 69 (0, 0)) := by rw [← hW2]; exact blk_alloc hE1 _
 have hK2 : W2.heap[w.heap.size + 3]? = some (.cells #[.slice (some ⟨w.heap.size + 2, 0, none⟩) 1 1] 147 (0, 0)) := by rw [← hW2]; exact blk_alloc hK1 _
 have hRE2 : (Kd.int .i64).R 3 W2 w.heap.size (fun _ => True) (.slice (some ⟨w.heap.size, 0, none⟩) 1 1) [0] := by rw [← hW2]; exact Kd.R_alloc hRE1 _
 have hRB2 : Kd.bool.R 4 W2 w.heap.size (fun _ => True) (.slice (some ⟨w.heap.size + 2, 0, none⟩) 1 1) [false] := by rw [← hW2]; exact Kd.R_alloc hRB1 _
 have hs2 : W2.heap.size = w.heap.size + 5 := by rw [← hW2]; simp [hs1]
 have hL2 := laid_below hL hB2
 have hpos : 0 < w.heap.size := laid_lt hL
 have hns : (strOfNums l0).size ≤ 4398046511103 := by rw [strOfNums_size]; exact hlim
 have hN : (allSteps (strOfNums l0)).length ≤ 4398046511103 := Nat.le_trans (stepsFrom_length _ _) (by omega)
 rw [hW2, hs1]
 clear hW2 hE1 hK1 hRE1 hRB1 HR1 hB1 hs1 HR0
 refine wpIn_rangeFunc_ownH rfl (by decide) (gf := 72) (lb := #[.pointer (some ⟨w.heap.size + 4, 0, none⟩)]) rfl trivial (enters_of Tryd.func72 (by kernel_rfl) rfl)
  (step_All1.stops (10 - 1) (w.heap.size + 4) w.heap.size (by decide) (strOfNums l0) (by omega) hpos W2 bs2 hB2.size hL2) KpBox.t (KpBox.b hB2.size (by omega)) (Below.refl _ _) (fun _ => rfl)
  (fun pre V => (Below w.heap.size w V ∧ V.heap[w.heap.size + 4]? = some (.cells #[.string (strOfNums l0)] 9 (0, 0))) ∧ ∃ vE vB, V.heap[w.heap.size + 1]? = some (.cells #[vE] 69 (0, 0)) ∧ V.heap[w.heap.size + 3]? = some (.cells #[vB] 147 (0, 0)) ∧ (Kd.int .i64).R 3 V w.heap.size (fun _ => True) vE (edgesOf pre) ∧ Kd.bool.R 4 V w.heap.size (fun _ => True) vB (blanksOf pre))
  (fun _ _ _ => False)
  (fun s X Y row hs hg hr => by
   obtain ⟨⟨h1, h2⟩, vE, vB, h3, h4, h5, h6⟩ := hs
   exact ⟨⟨ownFrom_below (Nat.le_refl _) hB2.size s X Y row h1 hg hr, blk_abides h2 hg (fun r e => (hr r e).2)⟩, vE, vB, blk_abides h3 hg (fun r e => (hr r e).2), blk_abides h4 hg (fun r e => (hr r e).2), R_abides h5 hg (fun r e => (hr r e).2), R_abides h6 hg (fun r e => (hr r e).2)⟩)
  (fun _ _ _ _ _ hs _ _ => hs)
  ⟨⟨hB2, bs2⟩, _, _, hE2, hK2, hRE2, hRB2⟩
  (fun x a' V => ∃ Bx, W2.heap.size ≤ Bx ∧ V.heap[Bx]? = some (.cells #[.int .i32 x.2.1, .int .i64 x.2.2.1, .bool x.2.2.2] 23 (0, 0)) ∧ a' = { tmps := #[.slice A0 l0.length c0, .int .i64 a1, .int .i64 a2, undef, undef, undef, .slice none 0 0, .pointer (some ⟨w.heap.size + 1, 0, none⟩), .pointer (some ⟨w.heap.size + 3, 0, none⟩), .int .i64 x.1, .pointer (some ⟨Bx, 0, none⟩), undef, undef, undef, .slice (some ⟨w.heap.size, 0, none⟩) 1 1, .slice (some ⟨w.heap.size + 2, 0, none⟩) 1 1, .slice A0 l0.length c0, .func (.func 72) #[] #[.pointer (some ⟨w.heap.size + 4, 0, none⟩)], .int .i64 x.1, .agg #[.int .i32 x.2.1, .int .i64 x.2.2.1, .bool x.2.2.2], undef, undef, undef, undef, undef, undef, undef, undef, undef, undef, undef, undef, undef, undef, undef, undef, undef, undef, undef, undef, undef, undef, undef, undef, undef, undef, undef, undef, undef, undef, undef, undef, undef, undef, undef, undef, undef, undef, undef, undef, undef, undef, undef, undef, undef, undef, undef, undef, undef, undef, undef, undef], defers := [] })
  (fun x a' _ X Y row hs hg hr => by obtain ⟨Bx, h1, h2, h3⟩ := hs; exact ⟨Bx, h1, blk_abides h2 hg (fun r e => (hr r e).2), h3⟩)
  ?assign ?body ?done ?stop
 case assign =>
  rintro l' pre x V K ⟨⟨hB, hbs⟩, vE, vB, hE, hK', hRE, hRB⟩ hK
  gi_wp2
  have hlt := blk_lt hbs
  exact hK _ _ ((KeepsOthers.alloc _ _).from _) (KpBox.of ((Below.refl _ V).alloc hB.size _) ((blk_alloc hbs _).trans hbs.symm) (KeepsOthers.alloc _ _)) ⟨⟨hB.alloc hB.size _, blk_alloc hbs _⟩, vE, vB, blk_alloc hE _, blk_alloc hK' _, Kd.R_alloc hRE _, Kd.R_alloc hRB _⟩ ⟨V.heap.size, by omega, blk_new V _, rfl⟩
 case body =>
  rintro l' pre x a' V hl' ⟨r, hr⟩ ⟨⟨hB, hbs⟩, vE, vB, hE, hK', hRE, hRB⟩ ⟨Bx, hBx, hbx, rfl⟩ hlen
  obtain ⟨xp, xr, xw, xb⟩ := x
  dsimp only at hbx ⊢
  refine wpIn_mono (Q := WrapPost W2.heap.size w.heap.size (strOfNums l0) (edgesOf pre ++ [wrap64 (xp + xw)]) (blanksOf pre ++ [kindOf xr xb == 1]) w V) ?walk ?post
  case post =>
   rintro e a9 V2 ⟨rfl, g1, g2, g3, vE2, vB2, g4, g5, g6, g7⟩
   exact ⟨g1, g2, ⟨g3, g2.2.1.trans hbs⟩, vE2, vB2, g4, g5, by simpa [edgesOf] using g6, by simpa [blanksOf] using g7⟩
  have hle : (edgesOf pre).length ≤ 4398046511104 := by simp [edgesOf]; omega
  have hlb : (blanksOf pre).length ≤ 4398046511104 := by simp [blanksOf]; omega
  generalize edgesOf pre = es at *
  generalize blanksOf pre = bs at *
  have HK := Aside0.mk (words_Kind.is xr xw xb)
  generalize kindOf xr xb = kd at *
  obtain ⟨AE, cE, rfl⟩ := Kd.R_slice hRE
  have c1 := blk_cell hE 0
  have f1 := blk_frozen hE 0
  have cx0 := blk_cell hbx 0
  have cx1 := blk_cell hbx 1
  have cx2 := blk_cell hbx 2
  have HRE := Aside0.mk hRE
  have HRB := Aside0.mk hRB
  have HLE := Aside0.mk (show (es.length + 1) * 8 ≤ 140737488355328 by omega)
  have HLB := Aside0.mk (show (bs.length + 1) * 1 ≤ 140737488355328 by omega)
  have hmx : Tryd.prog.follows .mixedOrders = true := by kernel_rfl
  clear hRE hRB hle hlb
  gi_wp2_with (gi_at_builtin; refine R_appendIn (Kd.int .i64) (w0 := V) w.heap.size rfl (.tmp 20) (.tmp 25) 69 3 (.int .i64 0) 8 rfl Tryd.underlying69 info3 rfl (by decide) (by decide) (.slice AE es.length cE) es (wrap64 (xp + xw)) [.int .i64 (wrap64 (xp + xw))] (fun _ => True) (fun _ => False) rfl rfl rfl (fun _ hk => hk.elim) (fun _ _ => trivial) HRE.out (Below.refl _ _) hB.size HLE.out ?_; intro v1 w1 HR1 HB2 hg1 hnn; have hb1 := blk_grown hE hg1 (R_ne_blk HRE.out hE (by decide)); have hc2 := blk_cell hb1 0; have hf2 := blk_frozen hb1 0; have HR2 := Aside0.mk HR1; have HG2 := Aside0.mk hg1; have HB3 := Aside0.mk HB2; have HBX := Aside0.mk hb1; obtain ⟨A2, c2, rfl⟩ := Kd.R_slice HR1; clear HR1 hg1 HB2 hnn hb1; have HR2 := Aside0.mk (show (Kd.int .i64).R 3 w1 w.heap.size (fun _ => True) (.slice A2 (es.length + 1) c2) (es ++ [wrap64 (xp + xw)]) from by have := HR2.out; rwa [List.length_append, List.length_singleton] at this))
  obtain ⟨V2, hV2⟩ : ∃ V2, w1.setCell ⟨w.heap.size + 1, 0, none⟩ (.slice A2 (es.length + 1) c2) = V2 := ⟨_, rfl⟩
  have hE3 : V2.heap[w.heap.size + 1]? = some (.cells #[.slice A2 (es.length + 1) c2] 69 (0, 0)) := by rw [← hV2]; exact blk_set HBX.out 0 _
  have hK3 : V2.heap[w.heap.size + 3]? = some (.cells #[vB] 147 (0, 0)) := by rw [← hV2]; exact blk_far (blk_grown hK' HG2.out (R_ne_blk HRE.out hK' (by decide))) (p := ⟨w.heap.size + 1, 0, none⟩) (by simp) _
  have hlt := blk_lt hbs
  have hbs3 : V2.heap[w.heap.size + 4]? = some (.cells #[.string (strOfNums l0)] 9 (0, 0)) := by rw [← hV2]; exact blk_far (blk_grown hbs HG2.out (R_ne_blk HRE.out hbs (by decide))) (p := ⟨w.heap.size + 1, 0, none⟩) (by simp) _
  have hbx3 : V2.heap[Bx]? = some (.cells #[.int .i32 xr, .int .i64 xw, .bool xb] 23 (0, 0)) := by rw [← hV2]; exact blk_far (blk_grown hbx HG2.out (R_ne_blk HRE.out hbx (by decide))) (p := ⟨w.heap.size + 1, 0, none⟩) (by simp; omega) _
  have hRE3 : (Kd.int .i64).R 3 V2 w.heap.size (fun _ => True) (.slice A2 (es.length + 1) c2) (es ++ [wrap64 (xp + xw)]) := by rw [← hV2]; exact Kd.R_set HR2.out HBX.out (by decide) _ _
  have hRB3 : Kd.bool.R 4 V2 w.heap.size (fun _ => True) vB bs := by rw [← hV2]; exact Kd.R_set (Kd.R_over' HRB.out (Kd.R_typed HRE.out) (by decide) HG2.out) HBX.out (by decide) _ _
  have hb3 : Below w.heap.size V V2 := by rw [← hV2]; exact HB3.out.setCell (p := ⟨w.heap.size + 1, 0, none⟩) (Nat.le_succ _) _
  have ho3 : KeepsOthers V V2 := by rw [← hV2]; exact (keepsOthers_R HRE.out HG2.out).trans (KeepsOthers.setCell _ _ _)
  rw [hV2]
  clear hV2 hc2 hf2 HBX HB3 HG2 HR2 hE hK' hbx c1 f1 cx0 cx1 cx2 HRE HRB hr
  generalize es ++ [wrap64 (xp + xw)] = es2 at *
  generalize es.length + 1 = n2 at *
  refine wpIn_region_any (by assumption) ?_
  try (change wpAnyIn _ _ _ _ _ _ _ _ _ (World.drew _))
  obtain ⟨X, hX⟩ : ∃ X, V2.drew = X := ⟨_, rfl⟩
  have hE4 : X.heap[w.heap.size + 1]? = some (.cells #[.slice A2 n2 c2] 69 (0, 0)) := by rw [← hX]; exact hE3
  have hK4 : X.heap[w.heap.size + 3]? = some (.cells #[vB] 147 (0, 0)) := by rw [← hX]; exact hK3
  have hbs4 : X.heap[w.heap.size + 4]? = some (.cells #[.string (strOfNums l0)] 9 (0, 0)) := by rw [← hX]; exact hbs3
  have hbx4 : X.heap[Bx]? = some (.cells #[.int .i32 xr, .int .i64 xw, .bool xb] 23 (0, 0)) := by rw [← hX]; exact hbx3
  have hRE4 : (Kd.int .i64).R 3 X w.heap.size (fun _ => True) (.slice A2 n2 c2) es2 := by rw [← hX]; exact Kd.R_drew hRE3
  have hRB4 : Kd.bool.R 4 X w.heap.size (fun _ => True) vB bs := by rw [← hX]; exact Kd.R_drew hRB3
  have hb4 : Below w.heap.size V X := by rw [← hX]; exact hb3.drew
  have ho4 : KeepsOthers V X := by rw [← hX]; exact ho3.trans (KeepsOthers.drew _)
  rw [hX]
  clear hX hE3 hK3 hbs3 hbx3 hRE3 hRB3 hb3 ho3
  obtain ⟨AB, cB, rfl⟩ := Kd.R_slice hRB4
  have cK := blk_cell hK4 0
  have cx0 := blk_cell hbx4 0
  have cx1 := blk_cell hbx4 1
  have cx2 := blk_cell hbx4 2
  have HRE := Aside0.mk hRE4
  have HRB := Aside0.mk hRB4
  have hu := Tryd.underlying23
  clear hRE4 hRB4
  have hb4S : w.heap.size ≤ X.heap.size := Nat.le_trans hB.size hb4.size
  refine wpAnyIn_ready (rs := [0, 1]) (by kernel_rfl) (by simp) ?_
  refine AllReadyIn.cons rfl (fun K hK => ?_) ?_
  ·go_simp
   refine hK _ _ ?_
   clear hK K
   refine wpAnyIn_ready (rs := [1]) (by kernel_rfl) (by simp) ?_
   refine AllReadyIn.cons rfl (fun K hK => ?_) ?_
   ·go_simp
    refine hK _ _ ?_
    clear hK K
    refine wpAnyIn_ready (rs := [2]) (by kernel_rfl) (by simp) ?_
    refine AllReadyIn.cons rfl (fun K hK => ?_) ?_
    ·go_simp
     gi_wp2_with (refine ⟨trivial, ?_⟩; gi_at_call 14; refine (CallsIn.inRound l' (callsIn_wide.2 (words_Kind.calls 3 xr xw xb kd _ HK.out))).mono ?_; rintro e Xk ⟨rfl, hbk⟩; replace hK4 := blk_below hK4 hbk; replace cK := blk_cell hK4 0)
     have cKa := blk_cell (blk_alloc hK4 (.cells #[.bool (kd == 1)] 4)) 0
     refine wpAnyIn_ready (rs := [3]) (by kernel_rfl) (by simp) ?_
     refine AllReadyIn.cons rfl (fun K hK => ?_) ?_
     ·go_simp
      refine hK _ _ ?_
      clear hK K
      refine wpAnyIn_ready (rs := [4]) (by kernel_rfl) (by simp) ?_
      refine AllReadyIn.cons rfl (fun K hK => ?_) ?_
      ·go_simp
       refine hK _ _ ?_
       clear hK K
       refine wpAnyIn_ready (rs := [5]) (by kernel_rfl) (by simp) ?_
       refine AllReadyIn.cons rfl (fun K hK => ?_) ?_
       ·refine R_append_stepIn Kd.bool (w0 := X) w.heap.size rfl (.tmp 27) (.tmp 31) 147 4 (.bool false) 1 rfl Tryd.underlying147 wr_infoB rfl (by decide) (by decide) (.slice AB bs.length cB) bs (kd == 1) [.bool (kd == 1)] (fun _ => True) (fun _ => False) rfl rfl rfl (fun _ hk => hk.elim) (fun _ _ => trivial) (Kd.R_below HRB.out hbk) (hbk.mono hb4S) (Nat.le_trans hb4S hbk.size) HLB.out ?_
        intro v2 w2 HR3 HB4 hg3
        obtain ⟨A3, c3, rfl⟩ := Kd.R_slice HR3
        rw [List.length_append, List.length_singleton] at HR3
        have hbe := blk_grown hK4 hg3 (R_ne_blk (Kd.R_below HRB.out hbk) hK4 (by decide))
        have cK2 := blk_cell hbe 0
        have fK2 := blk_frozen hbe 0
        have HR4 := Aside0.mk HR3
        have HG4 := Aside0.mk hg3
        have HB5 := Aside0.mk HB4
        have HBE := Aside0.mk hbe
        clear HR3 HB4 hg3 hbe cK cKa
        refine hK _ _ ?_
        clear hK K
        refine wpAnyIn_ready (rs := [6]) (by kernel_rfl) (by simp) ?_
        refine AllReadyIn.cons rfl (fun K hK => ?_) ?_
        ·go_simp
         refine hK _ _ ?_
         clear hK K
         refine wpAnyIn_done (by kernel_rfl) ?_ _
         (gi_wp2; exact wrapPost_of _ hB hbs hb4 ho4 hE4 hbs4 HRE.out HRB.out hbk HG4.out HB5.out HBE.out HR4.out)
        exact AllReadyIn.nil
       exact AllReadyIn.nil
      exact AllReadyIn.nil
     exact AllReadyIn.nil
    exact AllReadyIn.nil
   exact AllReadyIn.nil
  refine AllReadyIn.cons rfl (fun K hK => ?_) ?_
  ·go_simp
   refine hK _ _ ?_
   clear hK K
   refine wpAnyIn_ready (rs := [0, 2]) (by kernel_rfl) (by simp) ?_
   refine AllReadyIn.cons rfl (fun K hK => ?_) ?_
   ·go_simp
    refine hK _ _ ?_
    clear hK K
    refine wpAnyIn_ready (rs := [2]) (by kernel_rfl) (by simp) ?_
    refine AllReadyIn.cons rfl (fun K hK => ?_) ?_
    ·go_simp
     gi_wp2_with (refine ⟨trivial, ?_⟩; gi_at_call 14; refine (CallsIn.inRound l' (callsIn_wide.2 (words_Kind.calls 3 xr xw xb kd _ HK.out))).mono ?_; rintro e Xk ⟨rfl, hbk⟩; replace hK4 := blk_below hK4 hbk; replace cK := blk_cell hK4 0)
     have cKa := blk_cell (blk_alloc hK4 (.cells #[.bool (kd == 1)] 4)) 0
     refine wpAnyIn_ready (rs := [3]) (by kernel_rfl) (by simp) ?_
     refine AllReadyIn.cons rfl (fun K hK => ?_) ?_
     ·go_simp
      refine hK _ _ ?_
      clear hK K
      refine wpAnyIn_ready (rs := [4]) (by kernel_rfl) (by simp) ?_
      refine AllReadyIn.cons rfl (fun K hK => ?_) ?_
      ·go_simp
       refine hK _ _ ?_
       clear hK K
       refine wpAnyIn_ready (rs := [5]) (by kernel_rfl) (by simp) ?_
       refine AllReadyIn.cons rfl (fun K hK => ?_) ?_
       ·refine R_append_stepIn Kd.bool (w0 := X) w.heap.size rfl (.tmp 27) (.tmp 31) 147 4 (.bool false) 1 rfl Tryd.underlying147 wr_infoB rfl (by decide) (by decide) (.slice AB bs.length cB) bs (kd == 1) [.bool (kd == 1)] (fun _ => True) (fun _ => False) rfl rfl rfl (fun _ hk => hk.elim) (fun _ _ => trivial) (Kd.R_below HRB.out hbk) (hbk.mono hb4S) (Nat.le_trans hb4S hbk.size) HLB.out ?_
        intro v2 w2 HR3 HB4 hg3
        obtain ⟨A3, c3, rfl⟩ := Kd.R_slice HR3
        rw [List.length_append, List.length_singleton] at HR3
        have hbe := blk_grown hK4 hg3 (R_ne_blk (Kd.R_below HRB.out hbk) hK4 (by decide))
        have cK2 := blk_cell hbe 0
        have fK2 := blk_frozen hbe 0
        have HR4 := Aside0.mk HR3
        have HG4 := Aside0.mk hg3
        have HB5 := Aside0.mk HB4
        have HBE := Aside0.mk hbe
        clear HR3 HB4 hg3 hbe cK cKa
        refine hK _ _ ?_
        clear hK K
        refine wpAnyIn_ready (rs := [6]) (by kernel_rfl) (by simp) ?_
        refine AllReadyIn.cons rfl (fun K hK => ?_) ?_
        ·go_simp
         refine hK _ _ ?_
         clear hK K
         refine wpAnyIn_done (by kernel_rfl) ?_ _
         (gi_wp2; exact wrapPost_of _ hB hbs hb4 ho4 hE4 hbs4 HRE.out HRB.out hbk HG4.out HB5.out HBE.out HR4.out)
        exact AllReadyIn.nil
       exact AllReadyIn.nil
      exact AllReadyIn.nil
     exact AllReadyIn.nil
    exact AllReadyIn.nil
   refine AllReadyIn.cons rfl (fun K hK => ?_) ?_
   ·go_simp
    gi_wp2_with (refine ⟨trivial, ?_⟩; gi_at_call 14; refine (CallsIn.inRound l' (callsIn_wide.2 (words_Kind.calls 3 xr xw xb kd _ HK.out))).mono ?_; rintro e Xk ⟨rfl, hbk⟩; replace hK4 := blk_below hK4 hbk; replace cK := blk_cell hK4 0)
    have cKa := blk_cell (blk_alloc hK4 (.cells #[.bool (kd == 1)] 4)) 0
    refine wpAnyIn_ready (rs := [0, 3]) (by kernel_rfl) (by simp) ?_
    refine AllReadyIn.cons rfl (fun K hK => ?_) ?_
    ·go_simp
     refine hK _ _ ?_
     clear hK K
     refine wpAnyIn_ready (rs := [3]) (by kernel_rfl) (by simp) ?_
     refine AllReadyIn.cons rfl (fun K hK => ?_) ?_
     ·go_simp
      refine hK _ _ ?_
      clear hK K
      refine wpAnyIn_ready (rs := [4]) (by kernel_rfl) (by simp) ?_
      refine AllReadyIn.cons rfl (fun K hK => ?_) ?_
      ·go_simp
       refine hK _ _ ?_
       clear hK K
       refine wpAnyIn_ready (rs := [5]) (by kernel_rfl) (by simp) ?_
       refine AllReadyIn.cons rfl (fun K hK => ?_) ?_
       ·refine R_append_stepIn Kd.bool (w0 := X) w.heap.size rfl (.tmp 27) (.tmp 31) 147 4 (.bool false) 1 rfl Tryd.underlying147 wr_infoB rfl (by decide) (by decide) (.slice AB bs.length cB) bs (kd == 1) [.bool (kd == 1)] (fun _ => True) (fun _ => False) rfl rfl rfl (fun _ hk => hk.elim) (fun _ _ => trivial) (Kd.R_below HRB.out hbk) (hbk.mono hb4S) (Nat.le_trans hb4S hbk.size) HLB.out ?_
        intro v2 w2 HR3 HB4 hg3
        obtain ⟨A3, c3, rfl⟩ := Kd.R_slice HR3
        rw [List.length_append, List.length_singleton] at HR3
        have hbe := blk_grown hK4 hg3 (R_ne_blk (Kd.R_below HRB.out hbk) hK4 (by decide))
        have cK2 := blk_cell hbe 0
        have fK2 := blk_frozen hbe 0
        have HR4 := Aside0.mk HR3
        have HG4 := Aside0.mk hg3
        have HB5 := Aside0.mk HB4
        have HBE := Aside0.mk hbe
        clear HR3 HB4 hg3 hbe cK cKa
        refine hK _ _ ?_
        clear hK K
        refine wpAnyIn_ready (rs := [6]) (by kernel_rfl) (by simp) ?_
        refine AllReadyIn.cons rfl (fun K hK => ?_) ?_
        ·go_simp
         refine hK _ _ ?_
         clear hK K
         refine wpAnyIn_done (by kernel_rfl) ?_ _
         (gi_wp2; exact wrapPost_of _ hB hbs hb4 ho4 hE4 hbs4 HRE.out HRB.out hbk HG4.out HB5.out HBE.out HR4.out)
        exact AllReadyIn.nil
       exact AllReadyIn.nil
      exact AllReadyIn.nil
     exact AllReadyIn.nil
    refine AllReadyIn.cons rfl (fun K hK => ?_) ?_
    ·go_simp
     refine hK _ _ ?_
     clear hK K
     refine wpAnyIn_ready (rs := [0, 4]) (by kernel_rfl) (by simp) ?_
     refine AllReadyIn.cons rfl (fun K hK => ?_) ?_
     ·go_simp
      refine hK _ _ ?_
      clear hK K
      refine wpAnyIn_ready (rs := [4]) (by kernel_rfl) (by simp) ?_
      refine AllReadyIn.cons rfl (fun K hK => ?_) ?_
      ·go_simp
       refine hK _ _ ?_
       clear hK K
       refine wpAnyIn_ready (rs := [5]) (by kernel_rfl) (by simp) ?_
       refine AllReadyIn.cons rfl (fun K hK => ?_) ?_
       ·refine R_append_stepIn Kd.bool (w0 := X) w.heap.size rfl (.tmp 27) (.tmp 31) 147 4 (.bool false) 1 rfl Tryd.underlying147 wr_infoB rfl (by decide) (by decide) (.slice AB bs.length cB) bs (kd == 1) [.bool (kd == 1)] (fun _ => True) (fun _ => False) rfl rfl rfl (fun _ hk => hk.elim) (fun _ _ => trivial) (Kd.R_below HRB.out hbk) (hbk.mono hb4S) (Nat.le_trans hb4S hbk.size) HLB.out ?_
        intro v2 w2 HR3 HB4 hg3
        obtain ⟨A3, c3, rfl⟩ := Kd.R_slice HR3
        rw [List.length_append, List.length_singleton] at HR3
        have hbe := blk_grown hK4 hg3 (R_ne_blk (Kd.R_below HRB.out hbk) hK4 (by decide))
        have cK2 := blk_cell hbe 0
        have fK2 := blk_frozen hbe 0
        have HR4 := Aside0.mk HR3
        have HG4 := Aside0.mk hg3
        have HB5 := Aside0.mk HB4
        have HBE := Aside0.mk hbe
        clear HR3 HB4 hg3 hbe cK cKa
        refine hK _ _ ?_
        clear hK K
        refine wpAnyIn_ready (rs := [6]) (by kernel_rfl) (by simp) ?_
        refine AllReadyIn.cons rfl (fun K hK => ?_) ?_
        ·go_simp
         refine hK _ _ ?_
         clear hK K
         refine wpAnyIn_done (by kernel_rfl) ?_ _
         (gi_wp2; exact wrapPost_of _ hB hbs hb4 ho4 hE4 hbs4 HRE.out HRB.out hbk HG4.out HB5.out HBE.out HR4.out)
        exact AllReadyIn.nil
       exact AllReadyIn.nil
      exact AllReadyIn.nil
     refine AllReadyIn.cons rfl (fun K hK => ?_) ?_
     ·go_simp
      refine hK _ _ ?_
      clear hK K
      refine wpAnyIn_ready (rs := [0]) (by kernel_rfl) (by simp) ?_
      refine AllReadyIn.cons rfl (fun K hK => ?_) ?_
      ·go_simp
       refine hK _ _ ?_
       clear hK K
       refine wpAnyIn_ready (rs := [5]) (by kernel_rfl) (by simp) ?_
       refine AllReadyIn.cons rfl (fun K hK => ?_) ?_
       ·refine R_append_stepIn Kd.bool (w0 := X) w.heap.size rfl (.tmp 27) (.tmp 31) 147 4 (.bool false) 1 rfl Tryd.underlying147 wr_infoB rfl (by decide) (by decide) (.slice AB bs.length cB) bs (kd == 1) [.bool (kd == 1)] (fun _ => True) (fun _ => False) rfl rfl rfl (fun _ hk => hk.elim) (fun _ _ => trivial) (Kd.R_below HRB.out hbk) (hbk.mono hb4S) (Nat.le_trans hb4S hbk.size) HLB.out ?_
        intro v2 w2 HR3 HB4 hg3
        obtain ⟨A3, c3, rfl⟩ := Kd.R_slice HR3
        rw [List.length_append, List.length_singleton] at HR3
        have hbe := blk_grown hK4 hg3 (R_ne_blk (Kd.R_below HRB.out hbk) hK4 (by decide))
        have cK2 := blk_cell hbe 0
        have fK2 := blk_frozen hbe 0
        have HR4 := Aside0.mk HR3
        have HG4 := Aside0.mk hg3
        have HB5 := Aside0.mk HB4
        have HBE := Aside0.mk hbe
        clear HR3 HB4 hg3 hbe cK cKa
        refine hK _ _ ?_
        clear hK K
        refine wpAnyIn_ready (rs := [6]) (by kernel_rfl) (by simp) ?_
        refine AllReadyIn.cons rfl (fun K hK => ?_) ?_
        ·go_simp
         refine hK _ _ ?_
         clear hK K
         refine wpAnyIn_done (by kernel_rfl) ?_ _
         (gi_wp2; exact wrapPost_of _ hB hbs hb4 ho4 hE4 hbs4 HRE.out HRB.out hbk HG4.out HB5.out HBE.out HR4.out)
        exact AllReadyIn.nil
       exact AllReadyIn.nil
      exact AllReadyIn.nil
     exact AllReadyIn.nil
    exact AllReadyIn.nil
   exact AllReadyIn.nil
  exact AllReadyIn.nil
 case done =>
  rintro D zs V hD rfl ⟨⟨hB, hbs⟩, vE, vB, hE, hK', hRE, hRB⟩ hK
  have hlE : (edgesOf (allSteps (strOfNums l0))).length ≤ 4398046511104 := by simp [edgesOf]; omega
  have hlB : (blanksOf (allSteps (strOfNums l0))).length = (edgesOf (allSteps (strOfNums l0))).length := by simp [edgesOf, blanksOf]
  have hl1 : 1 ≤ (edgesOf (allSteps (strOfNums l0))).length := by simp [edgesOf]
  obtain ⟨L, hL0⟩ : ∃ L, wrapsOf l0 a1 a2 = L := ⟨_, rfl⟩
  have HL0 := Aside0.mk hL0
  unfold wrapsOf at hL0
  generalize edgesOf (allSteps (strOfNums l0)) = es at *
  generalize blanksOf (allSteps (strOfNums l0)) = bl at *
  obtain ⟨AE, cE, rfl⟩ := Kd.R_slice hRE
  obtain ⟨AB, cB, rfl⟩ := Kd.R_slice hRB
  have HE := Aside0.mk hE
  have HK' := Aside0.mk hK'
  have HKD := Aside0.mk hK
  have HRE := Aside0.mk (Kd.R_reads' hRE).2.2
  have HRB := Aside0.mk (Kd.R_reads' hRB).2.2
  have HBV := Aside0.mk hB
  have hDV : D < V.heap.size := blk_lt hK
  clear hE hK' hK hRE hRB hB hbs bs2 hB2 hE2 hK2 hRE2 hRB2 hL2 hlim hN hns hc0
  gi_wp2
  gi_loopw [11, 12] (fun v11 v12 wr => ∃ (out : List Int) (s : Int) (k : Nat), v12 = .int .i64 s ∧ Aside0 (wrapGo es bl a1 a2 k s out = L) ∧ Aside0 (0 ≤ s ∧ s + 1 ≤ (es.length : Int) ∧ (es.length : Int) - 1 - s < (k : Int) ∧ (out.length : Int) ≤ s) ∧ Aside0 ((Kd.int .i64).R 3 wr V.heap.size (fun _ => True) v11 out) ∧ Aside0 (Below V.heap.size V wr))
   (fun _ v12 _ => ((es.length : Int) - intVal v12).toNat)
  case atStart => exact ⟨[], 0, es.length, rfl, ⟨hL0⟩, ⟨by simp; omega⟩, ⟨Kd.R_nil _ _ _ _ _⟩, ⟨Below.refl _ V⟩⟩
  case round =>
   obtain ⟨out, s, k, rfl, HA, HI, HO, HB⟩ := hrel
   obtain ⟨i0, i1, i2, i3⟩ := HI.out
   have cE := blk_cell (blk_below HE.out HB.out) 0
   have cB := blk_cell (blk_below HK'.out HB.out) 0
   have H := HA.out
   clear HA HI hL0
   cases k with
   | zero => exfalso; simp at i2; omega
   | succ k =>
    simp only [wrapGo] at H
    have ew1 : wrap64 ((es.length : Int) - 1) = (es.length : Int) - 1 := by unfold wrap64; omega
    have ew2 : wrap64 ((es.length : Int) - 1 - s) = (es.length : Int) - 1 - s := by unfold wrap64; omega
    by_cases hc : a2 < (es.length : Int) - 1 - s
    ·rw [if_pos hc] at H
     have hcb : decide (a2 < (es.length : Int) - 1 - s) = true := decide_eq_true hc
     have ew3 : wrap64 (s + a2) = s + a2 := by unfold wrap64; omega
     gi_wp2
     gi_loopw [13] (fun v13 wq => ∃ (p : Int) (j : Nat), v13 = .int .i64 p ∧ wq = wr ∧ Aside0 (scanB bl s j p = scanB bl s a2.toNat (s + a2)) ∧ Aside0 (s ≤ p ∧ p ≤ s + a2 ∧ p - s ≤ (j : Int))) (fun v13 _ => (intVal v13 - s).toNat)
     case atStart => exact ⟨s + a2, a2.toNat, rfl, rfl, ⟨rfl⟩, ⟨by omega⟩⟩
     case round =>
      obtain ⟨p, j, rfl, rfl, HS, HP⟩ := hrel
      obtain ⟨p0, p1, p2⟩ := HP.out
      have hs := HS.out
      clear HS HP
      by_cases hps : s < p
      ·have hpb : decide (s < p) = true := decide_eq_true hps
       have g0 : 0 ≤ p := by omega
       have g1 : p < (bl.length : Int) := by omega
       obtain ⟨ad, hA, hx⟩ := Kd.at_bool (Kd.C_below HRB.out HB.out) p g0 g1
       cases hA
       have q0 := eq_true g0
       have q1 := eq_true g1
       cases j with
       | zero => exfalso; simp at p2; omega
       | succ j =>
        simp only [scanB] at hs
        by_cases hbl : rdOf false bl p = false
        ·rw [if_pos ⟨hps, hbl⟩] at hs
         rw [hbl] at hx
         have ew4 : wrap64 (p - 1) = p - 1 := by unfold wrap64; omega
         gi_wp2
         go_roundw
         case rel => exact ⟨p - 1, j, by first | rfl | trivial | simp [ew4], by first | rfl | trivial, ⟨hs⟩, ⟨by omega⟩⟩
         case measure => simp only [intVal, ew4]; omega
        ·rw [if_neg (fun h => hbl h.2)] at hs
         rw [show rdOf false bl p = true by simpa using hbl] at hx
         have hpe : (p == s) = false := by simp; omega
         have hcut : cutOf bl a2 s = p := by unfold cutOf; rw [if_neg (by omega)]; exact hs.symm
         rw [hcut] at H
         clear hcut hs
         have z0 : 0 ≤ p := by omega
         have z1 : p < (es.length : Int) := by omega
         obtain ⟨adE, hA2, hxE⟩ := Kd.at_int (Kd.C_below HRE.out HB.out) (p) z0 z1
         cases hA2
         have y0 := eq_true z0
         have y1 := eq_true z1
         have HLO := Aside0.mk (show (out.length + 1) * 8 ≤ 140737488355328 by omega)
         generalize rd es (p) = ev at *
         gi_wp2_with (gi_at_builtin; refine R_appendIn (Kd.int .i64) (w0 := V) V.heap.size rfl (.tmp 61) (.tmp 68) 69 3 (.int .i64 0) 8 rfl Tryd.underlying69 info3 rfl (by decide) (by decide) _ out (wrap64 (a1 + ev)) [.int .i64 (wrap64 (a1 + ev))] (fun _ => True) (fun _ => False) rfl rfl rfl (fun _ hk => hk.elim) (fun _ _ => trivial) HO.out HB.out HB.out.size HLO.out ?_; intro v1 w1 HR1 HB2 hg1 hnn; have HRn := Aside0.mk HR1; have HBn := Aside0.mk HB2; clear HR1 HB2 hg1 hnn)
         go_roundw
         case rel => exact ⟨out ++ [wrap64 (a1 + ev)], p, k, by first | rfl | trivial | simp [*], ⟨H⟩, ⟨by simp; omega⟩, ⟨HRn.out⟩, ⟨HBn.out⟩⟩
         case measure => simp only [intVal]; omega
      ·have hpb : decide (s < p) = false := decide_eq_false hps
       obtain rfl : s = p := by omega
       have hpe : (s == s) = true := by simp
       have hs2 : scanB bl s j s = s := by have := scanB_le bl s j s (Int.le_refl _); omega
       have hcut : cutOf bl a2 s = s + a2 := by unfold cutOf; rw [if_pos (by rw [← hs, hs2])]
       clear hs2
       rw [hcut] at H
       clear hcut hs
       have z0 : 0 ≤ s + a2 := by omega
       have z1 : s + a2 < (es.length : Int) := by omega
       obtain ⟨adE, hA2, hxE⟩ := Kd.at_int (Kd.C_below HRE.out HB.out) (s + a2) z0 z1
       cases hA2
       have y0 := eq_true z0
       have y1 := eq_true z1
       have HLO := Aside0.mk (show (out.length + 1) * 8 ≤ 140737488355328 by omega)
       generalize rd es (s + a2) = ev at *
       gi_wp2_with (gi_at_builtin; refine R_appendIn (Kd.int .i64) (w0 := V) V.heap.size rfl (.tmp 61) (.tmp 68) 69 3 (.int .i64 0) 8 rfl Tryd.underlying69 info3 rfl (by decide) (by decide) _ out (wrap64 (a1 + ev)) [.int .i64 (wrap64 (a1 + ev))] (fun _ => True) (fun _ => False) rfl rfl rfl (fun _ hk => hk.elim) (fun _ _ => trivial) HO.out HB.out HB.out.size HLO.out ?_; intro v1 w1 HR1 HB2 hg1 hnn; have HRn := Aside0.mk HR1; have HBn := Aside0.mk HB2; clear HR1 HB2 hg1 hnn)
       go_roundw
       case rel => exact ⟨out ++ [wrap64 (a1 + ev)], s + a2, k, by first | rfl | trivial | simp [*], ⟨H⟩, ⟨by simp; omega⟩, ⟨HRn.out⟩, ⟨HBn.out⟩⟩
       case measure => simp only [intVal]; omega
    ·rw [if_neg hc] at H
     have hcb : decide (a2 < (es.length : Int) - 1 - s) = false := decide_eq_false hc
     gi_wp2
     refine ⟨by simp, .inl ⟨_, _, rfl, run_takeDeferred (blk_below HKD.out HB.out), ?_⟩⟩
     refine ⟨_, results_tmp rfl _ _ _, _, rfl, ?_, (HBV.out.trans (HB.out.mono HBV.out.size)).trans (belowK_b (w := w) (Nat.le_refl _) wr D _ _ (by omega) (blk_below HKD.out HB.out) rfl rfl)⟩
     rw [HL0.out, ← H]
     exact R_abides (Kd.R_lower HO.out HBV.out.size) (grownBy_putObj' wr D _) (fun r e => by cases e; exact ⟨_, blk_below HKD.out HB.out, rfl⟩)
 case stop =>
  rintro D c pre W _ _ h _
  exact h.elim
theorem words_wrapped.calls (A0 : Option Addr) (c0 : Nat) (l0 : List Int) (a1 a2 : Int) (r : List Int) (w : World) (hr0 : Kd.C (Kd.int .u8) w A0 l0.length l0) (hc0 : l0.length ≤ c0) (hL : LaidBad w) (h : words_wrapped.f l0 a1 a2 = some r) :
  Calls Tryd.prog 66 #[.slice A0 l0.length c0, .int .i64 a1, .int .i64 a2] w fun e w' => ∃ v0_ : Value, e = .returned (v0_) ∧ Kd.R (Kd.int .i64) 3 w' w.heap.size (fun _ => True) v0_ r ∧ Below w.heap.size w w' := by
 unfold words_wrapped.f at h
 by_cases hl : l0.length ≤ 4398046511103 ∧ 1 ≤ a2 ∧ a2 ≤ 65536
 ·rw [if_pos hl] at h
  cases h
  exact callsIn_wide.1 (words_wrapped.walk A0 c0 l0 a1 a2 w hr0 hc0 hL hl.1 hl.2.1 hl.2.2)
 ·rw [if_neg hl] at h
  cases h

end Go.Proofs.YtijbkiajhicooaaDoor.PW

