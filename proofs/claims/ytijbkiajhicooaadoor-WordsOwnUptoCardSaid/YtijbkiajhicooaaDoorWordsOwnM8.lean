-- Written by merge.py, a program of this session's: PWx59
import Derived.Test.YtijbkiajhicooaaDoorWordsOwnM2
import Derived.Test.YtijbkiajhicooaaDoorWordsOwnM3
import Derived.Test.YtijbkiajhicooaaDoorWordsOwnM4
import Derived.Test.YtijbkiajhicooaaDoorWordsOwnM5
import Derived.Test.YtijbkiajhicooaaDoorWordsOwnM7
namespace Go.Proofs.YtijbkiajhicooaaDoor.PW
open Go.RowKit Go.Proofs.YtijbkiajhicooaaDoorW.PrintWords Go.Proofs.YtijbkiajhicooaaDoorW.PrintLast Go.Proofs.YtijbkiajhicooaaDoorW.PrintMore
attribute [local go_sem] max2_int min2_int max_two min_two max_three min_three max_four min_four   -- for this text's walks alone
set_option linter.unusedVariables false
set_option linter.unusedSimpArgs false

mutual
def galleylaw22_WordsOwn.l0 : Nat → List Int → Int → List Int → List (S36) → List (S36) → List Int → List Int → Int → Int → Option (Bool)
 | 0, _, _, _, _, _, _, _, _, _ => none
 | k + 1, x0, x2, x7, x9, x10, x11, x13, x67, x68 => if x68 < x67 then (if 0 ≤ x68 then (if x68 < (x9.length : Int) then (galleylaw22_WordsOwn.l0 k x0 x2 x7 (x9.set (x68 : Int).toNat (⟨(-1), (-2)⟩ : S36)) x10 x11 x13 x67 (wrap64 (x68 + 1))) else (none)) else (none)) else (galleylaw22_WordsOwn.l1 k x0 x2 x7 x9 x10 x11 x13 (x11.length : Int) 0)
def galleylaw22_WordsOwn.l1 : Nat → List Int → Int → List Int → List (S36) → List (S36) → List Int → List Int → Int → Int → Option (Bool)
 | 0, _, _, _, _, _, _, _, _, _ => none
 | k + 1, x0, x2, x7, x9, x10, x11, x13, x77, x78 => if x78 < x77 then (if 0 ≤ x78 then (if x78 < (x11.length : Int) then (galleylaw22_WordsOwn.l1 k x0 x2 x7 x9 x10 (x11.set (x78 : Int).toNat (-3)) x13 x77 (wrap64 (x78 + 1))) else (none)) else (none)) else (galleylaw22_WordsOwn.l2 k x0 x2 x7 x9 x10 x11 x13 0)
def galleylaw22_WordsOwn.l2 : Nat → List Int → Int → List Int → List (S36) → List (S36) → List Int → List Int → Int → Option (Bool)
 | 0, _, _, _, _, _, _, _, _ => none
 | k + 1, x0, x2, x7, x9, x10, x11, x13, x17 => if x17 < 40 then (if x9.length < 8796093022208 then (if x11.length < 17592186044416 then (galleylaw22_WordsOwn.l2 k x0 x2 x7 (x9 ++ [(⟨(-4), 0⟩ : S36)]) x10 (x11 ++ [(-5)]) x13 (wrap64 (x17 + 1))) else (none)) else (none)) else (galleylaw22_WordsOwn.l3 k x0 x2 x7 x10 x13 (x7.length : Int) 0)
def galleylaw22_WordsOwn.l3 : Nat → List Int → Int → List Int → List (S36) → List Int → Int → Int → Option (Bool)
 | 0, _, _, _, _, _, _, _ => none
 | k + 1, x0, x2, x7, x10, x13, x97, x98 => if x98 < x97 then (if 0 ≤ x98 then (if x98 < (x7.length : Int) then (galleylaw22_WordsOwn.l3 k x0 x2 (x7.set (x98 : Int).toNat 32) x10 x13 x97 (wrap64 (x98 + 1))) else (none)) else (none)) else ((galleyref22_Wrap.f k x0 x2).bind fun bt483 => ((galleyref22_All.f k x0).bind fun t487 => ((galleyref22_SameHits.f k x10 t487).bind fun t490 => (if t490 = true then ((galleyref01_SameInts.f k x13 bt483.1).bind fun t491 => (some t491)) else (some false)))))
end
def galleylaw22_WordsOwn.f (k : Nat) (l0 : List Int) (a1 : Int) (a2 : Int) : Option (Bool) := (galleylaw22_wakes.f).bind fun t436 => (if t436 = true then ((galleylaw22_own.f l0).bind fun t437 => ((some (([65, 66] : List Int) : List Int)).bind fun y440 => (if t437.length + y440.length < 140737488355328 then ((some (t437 ++ y440 : List Int)).bind fun y443 => (if 0 ≤ (l0.length : Int) then (if (l0.length : Int) ≤ (y443.length : Int) then ((some (y443.take ((l0.length : Int) : Int).toNat : List Int)).bind fun y446 => ((words_All.f k y446).bind fun t450 => ((words_All.f k y446).bind fun t453 => ((words_Wrap.f k y446 a2).bind fun bt456 => ((words_Wrap.f k y446 a2).bind fun bt460 => ((words_Around.f k y446 a1).bind fun bt464 => ((words_Next.f k y446 a1).bind fun bt468 => ((words_Prev.f k y446 a1).bind fun bt470 => ((words_Column.f y446 a1 a2).bind fun bt472 => (if (strOfNums l0).size + 2 ≤ 9223372036854775807 then (if (strOfNums y443).toList = ((strOfNums l0) ++ (⟨#[65, 66]⟩ : ByteArray)).toList then (galleylaw22_WordsOwn.l0 k l0 a2 y443 t450 t453 bt456.1 bt460.1 (t450.length : Int) 0) else (some false)) else (none))))))))))) else (none)) else (none))) else (none)))) else (some false))
set_option maxHeartbeats 8000000 in
set_option maxRecDepth 100000 in
theorem galleylaw22_WordsOwn.calls (k : Nat) (A0 : Option Addr) (c0 : Nat) (l0 : List Int) (a1 : Int) (a2 : Int) (r : Bool) (w : World) (hr0 : Kd.C (Kd.int .u8) w A0 l0.length l0) (hc0 : l0.length ≤ c0) (hL : LaidBad w) (h : galleylaw22_WordsOwn.f k l0 a1 a2 = some r) :
  Calls Tryd.prog 11 #[.slice A0 l0.length c0, .int .i64 a1, .int .i64 a2] w fun e w' => e = .returned (.bool r) ∧ Below w.heap.size w w' := by
 have hu36 := Tryd.underlying36
 have HR0 := Aside0.mk hr0
 have HC0 := Aside0.mk hc0
 clear hr0 hc0
 have HB := Aside0.mk (Below.refl w.heap.size w)
 have HLB := Aside0.mk hL
 clear hL
 have H : ((galleylaw22_wakes.f).bind fun t436 => (if t436 = true then ((galleylaw22_own.f l0).bind fun t437 => ((some (([65, 66] : List Int) : List Int)).bind fun y440 => (if t437.length + y440.length < 140737488355328 then ((some (t437 ++ y440 : List Int)).bind fun y443 => (if 0 ≤ (l0.length : Int) then (if (l0.length : Int) ≤ (y443.length : Int) then ((some (y443.take ((l0.length : Int) : Int).toNat : List Int)).bind fun y446 => ((words_All.f k y446).bind fun t450 => ((words_All.f k y446).bind fun t453 => ((words_Wrap.f k y446 a2).bind fun bt456 => ((words_Wrap.f k y446 a2).bind fun bt460 => ((words_Around.f k y446 a1).bind fun bt464 => ((words_Next.f k y446 a1).bind fun bt468 => ((words_Prev.f k y446 a1).bind fun bt470 => ((words_Column.f y446 a1 a2).bind fun bt472 => (if (strOfNums l0).size + 2 ≤ 9223372036854775807 then (if (strOfNums y443).toList = ((strOfNums l0) ++ (⟨#[65, 66]⟩ : ByteArray)).toList then (galleylaw22_WordsOwn.l0 k l0 a2 y443 t450 t453 bt456.1 bt460.1 (t450.length : Int) 0) else (some false)) else (none))))))))))) else (none)) else (none))) else (none)))) else (some false))) = some r := h
 clear h
 replace H := Option.bind_eq_some_iff.mp H
 obtain ⟨t436, A40, H⟩ := H
 replace H : (if t436 = true then ((galleylaw22_own.f l0).bind fun t437 => ((some (([65, 66] : List Int) : List Int)).bind fun y440 => (if t437.length + y440.length < 140737488355328 then ((some (t437 ++ y440 : List Int)).bind fun y443 => (if 0 ≤ (l0.length : Int) then (if (l0.length : Int) ≤ (y443.length : Int) then ((some (y443.take ((l0.length : Int) : Int).toNat : List Int)).bind fun y446 => ((words_All.f k y446).bind fun t450 => ((words_All.f k y446).bind fun t453 => ((words_Wrap.f k y446 a2).bind fun bt456 => ((words_Wrap.f k y446 a2).bind fun bt460 => ((words_Around.f k y446 a1).bind fun bt464 => ((words_Next.f k y446 a1).bind fun bt468 => ((words_Prev.f k y446 a1).bind fun bt470 => ((words_Column.f y446 a1 a2).bind fun bt472 => (if (strOfNums l0).size + 2 ≤ 9223372036854775807 then (if (strOfNums y443).toList = ((strOfNums l0) ++ (⟨#[65, 66]⟩ : ByteArray)).toList then (galleylaw22_WordsOwn.l0 k l0 a2 y443 t450 t453 bt456.1 bt460.1 (t450.length : Int) 0) else (some false)) else (none))))))))))) else (none)) else (none))) else (none)))) else (some false)) = some r := H
 have A4 := Aside0.mk A40
 clear A40
 by_cases c5 : t436 = true
 ·subst c5
  have H1 : ((galleylaw22_own.f l0).bind fun t437 => ((some (([65, 66] : List Int) : List Int)).bind fun y440 => (if t437.length + y440.length < 140737488355328 then ((some (t437 ++ y440 : List Int)).bind fun y443 => (if 0 ≤ (l0.length : Int) then (if (l0.length : Int) ≤ (y443.length : Int) then ((some (y443.take ((l0.length : Int) : Int).toNat : List Int)).bind fun y446 => ((words_All.f k y446).bind fun t450 => ((words_All.f k y446).bind fun t453 => ((words_Wrap.f k y446 a2).bind fun bt456 => ((words_Wrap.f k y446 a2).bind fun bt460 => ((words_Around.f k y446 a1).bind fun bt464 => ((words_Next.f k y446 a1).bind fun bt468 => ((words_Prev.f k y446 a1).bind fun bt470 => ((words_Column.f y446 a1 a2).bind fun bt472 => (if (strOfNums l0).size + 2 ≤ 9223372036854775807 then (if (strOfNums y443).toList = ((strOfNums l0) ++ (⟨#[65, 66]⟩ : ByteArray)).toList then (galleylaw22_WordsOwn.l0 k l0 a2 y443 t450 t453 bt456.1 bt460.1 (t450.length : Int) 0) else (some false)) else (none))))))))))) else (none)) else (none))) else (none)))) = some r := by rw [if_pos rfl] at H; exact H
  clear H
  have H := H1
  clear H1
  replace H := Option.bind_eq_some_iff.mp H
  obtain ⟨t437, A60, H⟩ := H
  replace H : ((some (([65, 66] : List Int) : List Int)).bind fun y440 => (if t437.length + y440.length < 140737488355328 then ((some (t437 ++ y440 : List Int)).bind fun y443 => (if 0 ≤ (l0.length : Int) then (if (l0.length : Int) ≤ (y443.length : Int) then ((some (y443.take ((l0.length : Int) : Int).toNat : List Int)).bind fun y446 => ((words_All.f k y446).bind fun t450 => ((words_All.f k y446).bind fun t453 => ((words_Wrap.f k y446 a2).bind fun bt456 => ((words_Wrap.f k y446 a2).bind fun bt460 => ((words_Around.f k y446 a1).bind fun bt464 => ((words_Next.f k y446 a1).bind fun bt468 => ((words_Prev.f k y446 a1).bind fun bt470 => ((words_Column.f y446 a1 a2).bind fun bt472 => (if (strOfNums l0).size + 2 ≤ 9223372036854775807 then (if (strOfNums y443).toList = ((strOfNums l0) ++ (⟨#[65, 66]⟩ : ByteArray)).toList then (galleylaw22_WordsOwn.l0 k l0 a2 y443 t450 t453 bt456.1 bt460.1 (t450.length : Int) 0) else (some false)) else (none))))))))))) else (none)) else (none))) else (none))) = some r := H
  have A6 := Aside0.mk A60
  clear A60
  obtain ⟨y440, hy440⟩ : ∃ y_ : List Int, y_ = (([65, 66] : List Int)) := ⟨_, rfl⟩
  replace H : (if t437.length + y440.length < 140737488355328 then ((some (t437 ++ y440 : List Int)).bind fun y443 => (if 0 ≤ (l0.length : Int) then (if (l0.length : Int) ≤ (y443.length : Int) then ((some (y443.take ((l0.length : Int) : Int).toNat : List Int)).bind fun y446 => ((words_All.f k y446).bind fun t450 => ((words_All.f k y446).bind fun t453 => ((words_Wrap.f k y446 a2).bind fun bt456 => ((words_Wrap.f k y446 a2).bind fun bt460 => ((words_Around.f k y446 a1).bind fun bt464 => ((words_Next.f k y446 a1).bind fun bt468 => ((words_Prev.f k y446 a1).bind fun bt470 => ((words_Column.f y446 a1 a2).bind fun bt472 => (if (strOfNums l0).size + 2 ≤ 9223372036854775807 then (if (strOfNums y443).toList = ((strOfNums l0) ++ (⟨#[65, 66]⟩ : ByteArray)).toList then (galleylaw22_WordsOwn.l0 k l0 a2 y443 t450 t453 bt456.1 bt460.1 (t450.length : Int) 0) else (some false)) else (none))))))))))) else (none)) else (none))) else (none)) = some r := by first | (rw [hy440]; with_reducible exact H) | (have H2_ := (Option.bind_some _ _).symm.trans H; rw [hy440]; with_reducible exact H2_) | (have H2_ := (Option.bind_some _ _).symm.trans H; with_reducible exact H2_) | with_reducible exact H | (rw [hy440]; exact H) | exact H
  have Ny440 := Aside0.mk hy440
  clear hy440
  by_cases c7 : t437.length + y440.length < 140737488355328
  ·rw [if_pos c7] at H
   have LMc7 := Aside0.mk c7
   clear c7
   obtain ⟨y443, hy443⟩ : ∃ y_ : List Int, y_ = (t437 ++ y440) := ⟨_, rfl⟩
   replace H : (if 0 ≤ (l0.length : Int) then (if (l0.length : Int) ≤ (y443.length : Int) then ((some (y443.take ((l0.length : Int) : Int).toNat : List Int)).bind fun y446 => ((words_All.f k y446).bind fun t450 => ((words_All.f k y446).bind fun t453 => ((words_Wrap.f k y446 a2).bind fun bt456 => ((words_Wrap.f k y446 a2).bind fun bt460 => ((words_Around.f k y446 a1).bind fun bt464 => ((words_Next.f k y446 a1).bind fun bt468 => ((words_Prev.f k y446 a1).bind fun bt470 => ((words_Column.f y446 a1 a2).bind fun bt472 => (if (strOfNums l0).size + 2 ≤ 9223372036854775807 then (if (strOfNums y443).toList = ((strOfNums l0) ++ (⟨#[65, 66]⟩ : ByteArray)).toList then (galleylaw22_WordsOwn.l0 k l0 a2 y443 t450 t453 bt456.1 bt460.1 (t450.length : Int) 0) else (some false)) else (none))))))))))) else (none)) else (none)) = some r := by first | (rw [hy443]; with_reducible exact H) | (have H2_ := (Option.bind_some _ _).symm.trans H; rw [hy443]; with_reducible exact H2_) | (have H2_ := (Option.bind_some _ _).symm.trans H; with_reducible exact H2_) | with_reducible exact H | (rw [hy443]; exact H) | exact H
   have Ny443 := Aside0.mk hy443
   clear hy443
   by_cases c8 : 0 ≤ (l0.length : Int)
   ·rw [if_pos c8] at H
    have c8b0 := eq_true c8
    have c8b1 : decide (0 ≤ (l0.length : Int)) = true := decide_eq_true c8
    clear c8
    by_cases c9 : (l0.length : Int) ≤ (y443.length : Int)
    ·rw [if_pos c9] at H
     have c9b0 := eq_true c9
     have c9b1 : decide ((l0.length : Int) ≤ (y443.length : Int)) = true := decide_eq_true c9
     clear c9
     obtain ⟨y446, hy446⟩ : ∃ y_ : List Int, y_ = (y443.take ((l0.length : Int) : Int).toNat) := ⟨_, rfl⟩
     replace H : ((words_All.f k y446).bind fun t450 => ((words_All.f k y446).bind fun t453 => ((words_Wrap.f k y446 a2).bind fun bt456 => ((words_Wrap.f k y446 a2).bind fun bt460 => ((words_Around.f k y446 a1).bind fun bt464 => ((words_Next.f k y446 a1).bind fun bt468 => ((words_Prev.f k y446 a1).bind fun bt470 => ((words_Column.f y446 a1 a2).bind fun bt472 => (if (strOfNums l0).size + 2 ≤ 9223372036854775807 then (if (strOfNums y443).toList = ((strOfNums l0) ++ (⟨#[65, 66]⟩ : ByteArray)).toList then (galleylaw22_WordsOwn.l0 k l0 a2 y443 t450 t453 bt456.1 bt460.1 (t450.length : Int) 0) else (some false)) else (none)))))))))) = some r := by first | (rw [hy446]; with_reducible exact H) | (have H2_ := (Option.bind_some _ _).symm.trans H; rw [hy446]; with_reducible exact H2_) | (have H2_ := (Option.bind_some _ _).symm.trans H; with_reducible exact H2_) | with_reducible exact H | (rw [hy446]; exact H) | exact H
     have Ny446 := Aside0.mk hy446
     clear hy446
     replace H := Option.bind_eq_some_iff.mp H
     obtain ⟨t450, A100, H⟩ := H
     replace H : ((words_All.f k y446).bind fun t453 => ((words_Wrap.f k y446 a2).bind fun bt456 => ((words_Wrap.f k y446 a2).bind fun bt460 => ((words_Around.f k y446 a1).bind fun bt464 => ((words_Next.f k y446 a1).bind fun bt468 => ((words_Prev.f k y446 a1).bind fun bt470 => ((words_Column.f y446 a1 a2).bind fun bt472 => (if (strOfNums l0).size + 2 ≤ 9223372036854775807 then (if (strOfNums y443).toList = ((strOfNums l0) ++ (⟨#[65, 66]⟩ : ByteArray)).toList then (galleylaw22_WordsOwn.l0 k l0 a2 y443 t450 t453 bt456.1 bt460.1 (t450.length : Int) 0) else (some false)) else (none))))))))) = some r := H
     have A10 := Aside0.mk A100
     clear A100
     replace H := Option.bind_eq_some_iff.mp H
     obtain ⟨t453, A110, H⟩ := H
     replace H : ((words_Wrap.f k y446 a2).bind fun bt456 => ((words_Wrap.f k y446 a2).bind fun bt460 => ((words_Around.f k y446 a1).bind fun bt464 => ((words_Next.f k y446 a1).bind fun bt468 => ((words_Prev.f k y446 a1).bind fun bt470 => ((words_Column.f y446 a1 a2).bind fun bt472 => (if (strOfNums l0).size + 2 ≤ 9223372036854775807 then (if (strOfNums y443).toList = ((strOfNums l0) ++ (⟨#[65, 66]⟩ : ByteArray)).toList then (galleylaw22_WordsOwn.l0 k l0 a2 y443 t450 t453 bt456.1 bt460.1 (t450.length : Int) 0) else (some false)) else (none)))))))) = some r := H
     have A11 := Aside0.mk A110
     clear A110
     replace H := Option.bind_eq_some_iff.mp H
     obtain ⟨⟨t456, t457⟩, A120, H⟩ := H
     replace H : ((words_Wrap.f k y446 a2).bind fun bt460 => ((words_Around.f k y446 a1).bind fun bt464 => ((words_Next.f k y446 a1).bind fun bt468 => ((words_Prev.f k y446 a1).bind fun bt470 => ((words_Column.f y446 a1 a2).bind fun bt472 => (if (strOfNums l0).size + 2 ≤ 9223372036854775807 then (if (strOfNums y443).toList = ((strOfNums l0) ++ (⟨#[65, 66]⟩ : ByteArray)).toList then (galleylaw22_WordsOwn.l0 k l0 a2 y443 t450 t453 t456 bt460.1 (t450.length : Int) 0) else (some false)) else (none))))))) = some r := H
     have A12 := Aside0.mk A120
     clear A120
     replace H := Option.bind_eq_some_iff.mp H
     obtain ⟨⟨t460, t461⟩, A130, H⟩ := H
     replace H : ((words_Around.f k y446 a1).bind fun bt464 => ((words_Next.f k y446 a1).bind fun bt468 => ((words_Prev.f k y446 a1).bind fun bt470 => ((words_Column.f y446 a1 a2).bind fun bt472 => (if (strOfNums l0).size + 2 ≤ 9223372036854775807 then (if (strOfNums y443).toList = ((strOfNums l0) ++ (⟨#[65, 66]⟩ : ByteArray)).toList then (galleylaw22_WordsOwn.l0 k l0 a2 y443 t450 t453 t456 t460 (t450.length : Int) 0) else (some false)) else (none)))))) = some r := H
     have A13 := Aside0.mk A130
     clear A130
     replace H := Option.bind_eq_some_iff.mp H
     obtain ⟨⟨t464, t465, t466, t467⟩, A140, H⟩ := H
     replace H : ((words_Next.f k y446 a1).bind fun bt468 => ((words_Prev.f k y446 a1).bind fun bt470 => ((words_Column.f y446 a1 a2).bind fun bt472 => (if (strOfNums l0).size + 2 ≤ 9223372036854775807 then (if (strOfNums y443).toList = ((strOfNums l0) ++ (⟨#[65, 66]⟩ : ByteArray)).toList then (galleylaw22_WordsOwn.l0 k l0 a2 y443 t450 t453 t456 t460 (t450.length : Int) 0) else (some false)) else (none))))) = some r := H
     have A14 := Aside0.mk A140
     clear A140
     replace H := Option.bind_eq_some_iff.mp H
     obtain ⟨⟨t468, t469⟩, A150, H⟩ := H
     replace H : ((words_Prev.f k y446 a1).bind fun bt470 => ((words_Column.f y446 a1 a2).bind fun bt472 => (if (strOfNums l0).size + 2 ≤ 9223372036854775807 then (if (strOfNums y443).toList = ((strOfNums l0) ++ (⟨#[65, 66]⟩ : ByteArray)).toList then (galleylaw22_WordsOwn.l0 k l0 a2 y443 t450 t453 t456 t460 (t450.length : Int) 0) else (some false)) else (none)))) = some r := H
     have A15 := Aside0.mk A150
     clear A150
     replace H := Option.bind_eq_some_iff.mp H
     obtain ⟨⟨t470, t471⟩, A160, H⟩ := H
     replace H : ((words_Column.f y446 a1 a2).bind fun bt472 => (if (strOfNums l0).size + 2 ≤ 9223372036854775807 then (if (strOfNums y443).toList = ((strOfNums l0) ++ (⟨#[65, 66]⟩ : ByteArray)).toList then (galleylaw22_WordsOwn.l0 k l0 a2 y443 t450 t453 t456 t460 (t450.length : Int) 0) else (some false)) else (none))) = some r := H
     have A16 := Aside0.mk A160
     clear A160
     replace H := Option.bind_eq_some_iff.mp H
     obtain ⟨⟨t472, t473⟩, A170, H⟩ := H
     replace H : (if (strOfNums l0).size + 2 ≤ 9223372036854775807 then (if (strOfNums y443).toList = ((strOfNums l0) ++ (⟨#[65, 66]⟩ : ByteArray)).toList then (galleylaw22_WordsOwn.l0 k l0 a2 y443 t450 t453 t456 t460 (t450.length : Int) 0) else (some false)) else (none)) = some r := H
     have A17 := Aside0.mk A170
     clear A170
     by_cases c18 : (strOfNums l0).size + 2 ≤ 9223372036854775807
     ·rw [if_pos c18] at H
      have c18b0 := eq_true c18
      have c18b1 : decide ((strOfNums l0).size + 2 ≤ 9223372036854775807) = true := decide_eq_true c18
      try have c18b2 : (9223372036854775807 < (strOfNums l0).size + 2) = False := eq_false (Nat.not_lt.2 c18)
      by_cases c19 : (strOfNums y443).toList = ((strOfNums l0) ++ (⟨#[65, 66]⟩ : ByteArray)).toList
      ·rw [if_pos c19] at H
       have c19b0 : ((strOfNums y443).toList == ((strOfNums l0) ++ (⟨#[65, 66]⟩ : ByteArray)).toList) = true := beq_iff_eq.mpr c19
       have c19b1 : ((strOfNums y443).toList != ((strOfNums l0) ++ (⟨#[65, 66]⟩ : ByteArray)).toList) = false := bne_eq_false_iff_eq.mpr c19
       clear c19
       have H' := Aside0.mk H
       clear H
       go_enter Tryd.func11, Tryd.ntmps11
       go_wp2_with (first | ((with_reducible refine gate_callee (f := 13) rfl ?_); refine goesL_ (some 21) rfl rfl Tryd.func13 (by kernel_rfl) rfl #[] rfl (by (try simp only [List.map_toArray, List.map_cons, List.map_nil]); first | done | rfl | (simp only [List.length_drop, List.length_take]; rfl)) ?_; (with_reducible refine (galleylaw22_wakes.calls  true _ ?side1 A4.out).mono ?_); (case side1 => exact laid_below HLB.out (by repeat (first | (with_reducible first | exact HB.out | apply below_alloc | apply pw_below_drewN | apply below_drew1) | exact HB.out))); rintro e w20 ⟨rfl, hb⟩; refine ⟨_, rfl, ?_⟩; have n0_ := Aside0.mk (below_step (by repeat (first | (with_reducible first | exact HB.out | apply below_alloc | apply pw_below_drewN | apply below_drew1) | exact HB.out)) hb); clear HB; have HB := n0_; clear n0_; (try clear hb); (try clear hb2); (try clear hk); (try clear hi)) | ((with_reducible refine gate_callee (f := 18) rfl ?_); refine goesL_ (some 24) rfl rfl Tryd.func18 (by kernel_rfl) rfl #[.slice A0 l0.length c0] rfl (by (try simp only [List.map_toArray, List.map_cons, List.map_nil]); first | done | rfl | (simp only [List.length_drop, List.length_take]; rfl)) ?_; (with_reducible refine (galleylaw22_own.calls _ _ l0 t437 _ ?side1 ?side2 A6.out).mono ?_); (case side1 => repeat (first | exact (Kd.C_below HR0.out HB.out) | (with_reducible refine Kd.C_alloc ?_ _) | (with_reducible refine Kd.C_drewN ?_ _) | (with_reducible refine Kd.C_drew ?_))); (case side2 => exact HC0.out); rintro e w21 ⟨v438, rfl, ho0, hb⟩; refine ⟨_, rfl, ?_⟩; have n0_ := Aside0.mk (Kd.R_lower ho0 (below_size (by repeat (first | (with_reducible first | exact HB.out | apply below_alloc | apply pw_below_drewN | apply below_drew1) | exact HB.out)))); have n1_ := Aside0.mk (below_step (by repeat (first | (with_reducible first | exact HB.out | apply below_alloc | apply pw_below_drewN | apply below_drew1) | exact HB.out)) hb); clear HB; have HO439 := n0_; have HB := n1_; clear n0_ n1_; (try clear hb); (try clear hb2); (try clear hk); (try clear hi); (try clear ho0)) | ((with_reducible refine gate_dst (N := 25) rfl ?_); refine Kd.R_lit (Kd.int .u8) _ 5 ?hg (N := 25) ?hd (xs := ([65, 66] : List Int)) (inner := [.int .u8 65, .int .u8 66]) (ok := fun _ => True) (okp := fun _ => True) ?hr ?hp (fun _ hk => hk) trivial (Below.refl _ _) (Nat.le_refl _) (by simp) ?_; (case hd => rfl); (case hg => rfl); (case hr => first | (go_simp; done) | (go_simp; rfl)); (case hp => exact (Reps.one (show Kd.M (Kd.int .u8) _ _ _ 65 [.int .u8 65] from rfl) (Reps.one (show Kd.M (Kd.int .u8) _ _ _ 66 [.int .u8 66] from rfl) (Reps.none _ _)))); intro v441 w22 ho23 hb hg_ hnew_; clear hg_ hnew_; (first | rw [← Ny440.out] at ho23 | (simp only [Int.reduceToNat] at ho23; rw [← Ny440.out] at ho23)); have n0_ := Aside0.mk (Kd.R_elder' (by (with_reducible repeat (first | apply Kd.R_alloc | apply Kd.R_drewN | apply Kd.R_drew)); exact HO439.out) (Kd.R_base ho23) hb); have n1_ := Aside0.mk (Kd.R_lower (Kd.R_new' ho23 (Kd.R_lt (by (with_reducible repeat (first | apply Kd.R_alloc | apply Kd.R_drewN | apply Kd.R_drew)); exact HO439.out))) (below_size (by repeat (first | (with_reducible first | exact HB.out | apply below_alloc | apply pw_below_drewN | apply below_drew1) | exact HB.out)))); have n2_ := Aside0.mk (below_step (by repeat (first | (with_reducible first | exact HB.out | apply below_alloc | apply pw_below_drewN | apply below_drew1) | exact HB.out)) hb); clear HO439; clear HB; have HO439 := n0_; have HO442 := n1_; have HB := n2_; clear n0_ n1_ n2_; clear hb ho23; obtain ⟨Ao25, co25, eo25⟩ := Kd.R_slice HO442.out; subst eo25) | ((with_reducible refine gate_builtin (b := .append) (xs := #[.tmp 24, .tmp 25]) rfl ?_); at_builtin; refine Kd.R_append_rows (Kd.int .u8) (w0 := w) w.heap.size rfl (.tmp 24) (.tmp 25) 29 5 (.int .u8 0) 1 rfl Tryd.underlying29 info5 rfl (by decide) (by omega) v438 t437 y440 _ _ _ (fun k_ => some k_ ≠ (.slice Ao25 y440.length co25 : Value).ownBlock) (fun _ => False) rfl rfl ?aO ?aR (fun _ _ h => h) (fun _ h => h.elim) ?aF ?aB ?aS ?aL ?_; (case aR => repeat (first | exact (Kd.R_reads' HO442.out).2.2 | (with_reducible refine Kd.C_alloc ?_ _) | (with_reducible refine Kd.C_drewN ?_ _) | (with_reducible refine Kd.C_drew ?_))); (case aB => exact (by repeat (first | (with_reducible first | exact HB.out | apply below_alloc | apply pw_below_drewN | apply below_drew1) | exact HB.out))); (case aF => exact (fun k_ hk => Kd.fresh' (Kd.R_lt (by (with_reducible repeat (first | apply Kd.R_alloc | apply Kd.R_drewN | apply Kd.R_drew)); exact HO442.out)) k_ hk)); (case aO => exact (by (with_reducible repeat (first | apply Kd.R_alloc | apply Kd.R_drewN | apply Kd.R_drew)); exact Kd.R_mono HO439.out (fun _ hk => hk.2))); (case aS => exact (below_size (by repeat (first | (with_reducible first | exact HB.out | apply below_alloc | apply pw_below_drewN | apply below_drew1) | exact HB.out)))); (case aL => have := LMc7.out; omega); intro v444 w24 ho hb hg hat; rw [← Ny443.out] at ho; have n0_ := Aside0.mk (Kd.R_after (ok := (fun _ => True)) (by (with_reducible repeat (first | apply Kd.R_alloc | apply Kd.R_drewN | apply Kd.R_drew)); exact HO442.out) hg hat); have n1_ := Aside0.mk (hb); have n2_ := Aside0.mk (ho); clear HO442; clear HB; clear HO439; have HO442 := n0_; have HB := n1_; have HO445 := n2_; clear n0_ n1_ n2_; clear ho hb hg hat; obtain ⟨Ao27, co27, eo27⟩ := Kd.R_slice HO445.out; subst eo27; have q26 : ((l0.length : Int) : Int) ≤ ((y443.length : Int) : Int) := of_decide_eq_true (by first | (with_reducible assumption) | assumption); obtain ⟨i026, hi026, _, hsz26, _⟩ := info_parts info5; have hroom26 : y443.length ≤ co27 := (Kd.R_reads' HO445.out).2.1; have hC26 : Kd.C (Kd.int .u8) _ Ao27 y443.length y443 := (Kd.R_reads' HO445.out).2.2; have hcut26 := cut_to (P := Tryd.prog) 29 5 .i64 Tryd.underlying29 hi026 Ao27 y443.length co27 (l0.length : Int) (of_decide_eq_true (by first | (with_reducible assumption) | assumption)) q26 hroom26; have hr26 := Kd.C_take (m := ((l0.length : Int) : Int).toNat) hC26 (by omega); have hy26 : y446.length = ((l0.length : Int) : Int).toNat := (by rw [Ny446.out, List.length_take]; omega); rw [← Ny446.out] at hr26; rw [← hy26] at hcut26; have HR449 := Aside0.mk hr26; have HC449 := Aside0.mk (show y446.length ≤ co27 from by omega); clear hr26 hC26 hroom26 hi026 hsz26; have KY26 := Aside0.mk hy26; clear hy26; have KL26 := Aside0.mk (show ((l0.length : Int) : Int).toNat ≤ y443.length from by omega); replace q26 := eq_true q26) | ((with_reducible refine gate_callee (f := 17) rfl ?_); refine goesL_ (some 32) rfl rfl Tryd.func17 (by kernel_rfl) rfl #[.slice Ao27 y446.length co27] rfl (by (try simp only [List.map_toArray, List.map_cons, List.map_nil]); first | done | rfl | (simp only [List.length_drop, List.length_take]; rfl)) ?_; (with_reducible refine (words_All.calls k _ _ y446 t450 _ ?side1 ?side2 ?side3 A10.out).mono ?_); (case side1 => repeat (first | exact (by repeat (first | (with_reducible exact HR449.out) | (with_reducible refine Kd.C_alloc ?_ _) | (with_reducible refine Kd.C_drewN ?_ _) | (with_reducible refine Kd.C_drew ?_) | exact HR449.out)) | (with_reducible refine Kd.C_alloc ?_ _) | (with_reducible refine Kd.C_drewN ?_ _) | (with_reducible refine Kd.C_drew ?_))); (case side2 => exact HC449.out); (case side3 => exact laid_below HLB.out (by repeat (first | (with_reducible first | exact HB.out | apply below_alloc | apply pw_below_drewN | apply below_drew1) | exact HB.out))); rintro e w28 ⟨v451, rfl, ho0, hb⟩; refine ⟨_, rfl, ?_⟩; have n0_ := Aside0.mk (Kd.R_below (by (with_reducible repeat (first | apply Kd.R_alloc | apply Kd.R_drewN | apply Kd.R_drew)); exact HO442.out) hb); have n1_ := Aside0.mk (Kd.R_below (by (with_reducible repeat (first | apply Kd.R_alloc | apply Kd.R_drewN | apply Kd.R_drew)); exact HO445.out) hb); have n2_ := Aside0.mk (Kd.R_lower ho0 (below_size (by repeat (first | (with_reducible first | exact HB.out | apply below_alloc | apply pw_below_drewN | apply below_drew1) | exact HB.out)))); have n3_ := Aside0.mk (Kd.C_below (by repeat (first | (with_reducible exact HR449.out) | (with_reducible refine Kd.C_alloc ?_ _) | (with_reducible refine Kd.C_drewN ?_ _) | (with_reducible refine Kd.C_drew ?_) | exact HR449.out)) hb); have n4_ := Aside0.mk (below_step (by repeat (first | (with_reducible first | exact HB.out | apply below_alloc | apply pw_below_drewN | apply below_drew1) | exact HB.out)) hb); clear HO442; clear HO445; clear HR449; clear HB; have HO442 := n0_; have HO445 := n1_; have HO452 := n2_; have HR449 := n3_; have HB := n4_; clear n0_ n1_ n2_ n3_ n4_; (try clear hb); (try clear hb2); (try clear hk); (try clear hi); (try clear ho0)) | ((with_reducible refine gate_callee (f := 17) rfl ?_); refine goesL_ (some 34) rfl rfl Tryd.func17 (by kernel_rfl) rfl #[.slice Ao27 y446.length co27] rfl (by (try simp only [List.map_toArray, List.map_cons, List.map_nil]); first | done | rfl | (simp only [List.length_drop, List.length_take]; rfl)) ?_; (with_reducible refine (words_All.calls k _ _ y446 t453 _ ?side1 ?side2 ?side3 A11.out).mono ?_); (case side1 => repeat (first | exact (by repeat (first | (with_reducible exact HR449.out) | (with_reducible refine Kd.C_alloc ?_ _) | (with_reducible refine Kd.C_drewN ?_ _) | (with_reducible refine Kd.C_drew ?_) | exact HR449.out)) | (with_reducible refine Kd.C_alloc ?_ _) | (with_reducible refine Kd.C_drewN ?_ _) | (with_reducible refine Kd.C_drew ?_))); (case side2 => exact HC449.out); (case side3 => exact laid_below HLB.out (by repeat (first | (with_reducible first | exact HB.out | apply below_alloc | apply pw_below_drewN | apply below_drew1) | exact HB.out))); rintro e w29 ⟨v454, rfl, ho0, hb⟩; refine ⟨_, rfl, ?_⟩; have n0_ := Aside0.mk (Kd.R_below (by (with_reducible repeat (first | apply Kd.R_alloc | apply Kd.R_drewN | apply Kd.R_drew)); exact HO442.out) hb); have n1_ := Aside0.mk (Kd.R_below (by (with_reducible repeat (first | apply Kd.R_alloc | apply Kd.R_drewN | apply Kd.R_drew)); exact HO445.out) hb); have n2_ := Aside0.mk (Kd.R_elder' (by (with_reducible repeat (first | apply Kd.R_alloc | apply Kd.R_drewN | apply Kd.R_drew)); exact HO452.out) (Kd.R_base ho0) hb); have n3_ := Aside0.mk (Kd.R_lower (Kd.R_new' ho0 (Kd.R_lt (by (with_reducible repeat (first | apply Kd.R_alloc | apply Kd.R_drewN | apply Kd.R_drew)); exact HO452.out))) (below_size (by repeat (first | (with_reducible first | exact HB.out | apply below_alloc | apply pw_below_drewN | apply below_drew1) | exact HB.out)))); have n4_ := Aside0.mk (Kd.C_below (by repeat (first | (with_reducible exact HR449.out) | (with_reducible refine Kd.C_alloc ?_ _) | (with_reducible refine Kd.C_drewN ?_ _) | (with_reducible refine Kd.C_drew ?_) | exact HR449.out)) hb); have n5_ := Aside0.mk (below_step (by repeat (first | (with_reducible first | exact HB.out | apply below_alloc | apply pw_below_drewN | apply below_drew1) | exact HB.out)) hb); clear HO442; clear HO445; clear HO452; clear HR449; clear HB; have HO442 := n0_; have HO445 := n1_; have HO452 := n2_; have HO455 := n3_; have HR449 := n4_; have HB := n5_; clear n0_ n1_ n2_ n3_ n4_ n5_; (try clear hb); (try clear hb2); (try clear hk); (try clear hi); (try clear ho0)) | ((with_reducible refine gate_callee (f := 36) rfl ?_); refine goesL_ (some 38) rfl rfl Tryd.func36 (by kernel_rfl) rfl #[.slice Ao27 y446.length co27, .int .i64 a2] rfl (by (try simp only [List.map_toArray, List.map_cons, List.map_nil]); first | done | rfl | (simp only [List.length_drop, List.length_take]; rfl)) ?_; (with_reducible refine (words_Wrap.calls k _ _ y446 a2 t456 t457 _ ?side1 ?side2 ?side3 A12.out).mono ?_); (case side1 => repeat (first | exact (by repeat (first | (with_reducible exact HR449.out) | (with_reducible refine Kd.C_alloc ?_ _) | (with_reducible refine Kd.C_drewN ?_ _) | (with_reducible refine Kd.C_drew ?_) | exact HR449.out)) | (with_reducible refine Kd.C_alloc ?_ _) | (with_reducible refine Kd.C_drewN ?_ _) | (with_reducible refine Kd.C_drew ?_))); (case side2 => exact HC449.out); (case side3 => exact laid_below HLB.out (by repeat (first | (with_reducible first | exact HB.out | apply below_alloc | apply pw_below_drewN | apply below_drew1) | exact HB.out))); rintro e w30 ⟨v458, rfl, ho0, hb⟩; refine ⟨_, rfl, ?_⟩; have n0_ := Aside0.mk (Kd.R_below (by (with_reducible repeat (first | apply Kd.R_alloc | apply Kd.R_drewN | apply Kd.R_drew)); exact HO442.out) hb); have n1_ := Aside0.mk (Kd.R_below (by (with_reducible repeat (first | apply Kd.R_alloc | apply Kd.R_drewN | apply Kd.R_drew)); exact HO445.out) hb); have n2_ := Aside0.mk (Kd.R_below (by (with_reducible repeat (first | apply Kd.R_alloc | apply Kd.R_drewN | apply Kd.R_drew)); exact HO452.out) hb); have n3_ := Aside0.mk (Kd.R_below (by (with_reducible repeat (first | apply Kd.R_alloc | apply Kd.R_drewN | apply Kd.R_drew)); exact HO455.out) hb); have n4_ := Aside0.mk (Kd.R_lower ho0 (below_size (by repeat (first | (with_reducible first | exact HB.out | apply below_alloc | apply pw_below_drewN | apply below_drew1) | exact HB.out)))); have n5_ := Aside0.mk (Kd.C_below (by repeat (first | (with_reducible exact HR449.out) | (with_reducible refine Kd.C_alloc ?_ _) | (with_reducible refine Kd.C_drewN ?_ _) | (with_reducible refine Kd.C_drew ?_) | exact HR449.out)) hb); have n6_ := Aside0.mk (below_step (by repeat (first | (with_reducible first | exact HB.out | apply below_alloc | apply pw_below_drewN | apply below_drew1) | exact HB.out)) hb); clear HO442; clear HO445; clear HO452; clear HO455; clear HR449; clear HB; have HO442 := n0_; have HO445 := n1_; have HO452 := n2_; have HO455 := n3_; have HO459 := n4_; have HR449 := n5_; have HB := n6_; clear n0_ n1_ n2_ n3_ n4_ n5_ n6_; (try clear hb); (try clear hb2); (try clear hk); (try clear hi); (try clear ho0)) | ((with_reducible refine gate_callee (f := 36) rfl ?_); refine goesL_ (some 44) rfl rfl Tryd.func36 (by kernel_rfl) rfl #[.slice Ao27 y446.length co27, .int .i64 a2] rfl (by (try simp only [List.map_toArray, List.map_cons, List.map_nil]); first | done | rfl | (simp only [List.length_drop, List.length_take]; rfl)) ?_; (with_reducible refine (words_Wrap.calls k _ _ y446 a2 t460 t461 _ ?side1 ?side2 ?side3 A13.out).mono ?_); (case side1 => repeat (first | exact (by repeat (first | (with_reducible exact HR449.out) | (with_reducible refine Kd.C_alloc ?_ _) | (with_reducible refine Kd.C_drewN ?_ _) | (with_reducible refine Kd.C_drew ?_) | exact HR449.out)) | (with_reducible refine Kd.C_alloc ?_ _) | (with_reducible refine Kd.C_drewN ?_ _) | (with_reducible refine Kd.C_drew ?_))); (case side2 => exact HC449.out); (case side3 => exact laid_below HLB.out (by repeat (first | (with_reducible first | exact HB.out | apply below_alloc | apply pw_below_drewN | apply below_drew1) | exact HB.out))); rintro e w31 ⟨v462, rfl, ho0, hb⟩; refine ⟨_, rfl, ?_⟩; have n0_ := Aside0.mk (Kd.R_below (by (with_reducible repeat (first | apply Kd.R_alloc | apply Kd.R_drewN | apply Kd.R_drew)); exact HO442.out) hb); have n1_ := Aside0.mk (Kd.R_below (by (with_reducible repeat (first | apply Kd.R_alloc | apply Kd.R_drewN | apply Kd.R_drew)); exact HO445.out) hb); have n2_ := Aside0.mk (Kd.R_below (by (with_reducible repeat (first | apply Kd.R_alloc | apply Kd.R_drewN | apply Kd.R_drew)); exact HO452.out) hb); have n3_ := Aside0.mk (Kd.R_below (by (with_reducible repeat (first | apply Kd.R_alloc | apply Kd.R_drewN | apply Kd.R_drew)); exact HO455.out) hb); have n4_ := Aside0.mk (Kd.R_elder' (by (with_reducible repeat (first | apply Kd.R_alloc | apply Kd.R_drewN | apply Kd.R_drew)); exact HO459.out) (Kd.R_base ho0) hb); have n5_ := Aside0.mk (Kd.R_lower (Kd.R_new' ho0 (Kd.R_lt (by (with_reducible repeat (first | apply Kd.R_alloc | apply Kd.R_drewN | apply Kd.R_drew)); exact HO459.out))) (below_size (by repeat (first | (with_reducible first | exact HB.out | apply below_alloc | apply pw_below_drewN | apply below_drew1) | exact HB.out)))); have n6_ := Aside0.mk (Kd.C_below (by repeat (first | (with_reducible exact HR449.out) | (with_reducible refine Kd.C_alloc ?_ _) | (with_reducible refine Kd.C_drewN ?_ _) | (with_reducible refine Kd.C_drew ?_) | exact HR449.out)) hb); have n7_ := Aside0.mk (below_step (by repeat (first | (with_reducible first | exact HB.out | apply below_alloc | apply pw_below_drewN | apply below_drew1) | exact HB.out)) hb); clear HO442; clear HO445; clear HO452; clear HO455; clear HO459; clear HR449; clear HB; have HO442 := n0_; have HO445 := n1_; have HO452 := n2_; have HO455 := n3_; have HO459 := n4_; have HO463 := n5_; have HR449 := n6_; have HB := n7_; clear n0_ n1_ n2_ n3_ n4_ n5_ n6_ n7_; (try clear hb); (try clear hb2); (try clear hk); (try clear hi); (try clear ho0)) | ((with_reducible refine gate_callee (f := 20) rfl ?_); refine goesL_ (some 49) rfl rfl Tryd.func20 (by kernel_rfl) rfl #[.slice Ao27 y446.length co27, .int .i64 a1] rfl (by (try simp only [List.map_toArray, List.map_cons, List.map_nil]); first | done | rfl | (simp only [List.length_drop, List.length_take]; rfl)) ?_; (with_reducible refine (words_Around.calls k _ _ y446 a1 t464 t465 t466 t467 _ ?side1 ?side2 ?side3 A14.out).mono ?_); (case side1 => repeat (first | exact (by repeat (first | (with_reducible exact HR449.out) | (with_reducible refine Kd.C_alloc ?_ _) | (with_reducible refine Kd.C_drewN ?_ _) | (with_reducible refine Kd.C_drew ?_) | exact HR449.out)) | (with_reducible refine Kd.C_alloc ?_ _) | (with_reducible refine Kd.C_drewN ?_ _) | (with_reducible refine Kd.C_drew ?_))); (case side2 => exact HC449.out); (case side3 => exact laid_below HLB.out (by repeat (first | (with_reducible first | exact HB.out | apply below_alloc | apply pw_below_drewN | apply below_drew1) | exact HB.out))); rintro e w32 ⟨rfl, hb⟩; refine ⟨_, rfl, ?_⟩; have n0_ := Aside0.mk (Kd.R_below (by (with_reducible repeat (first | apply Kd.R_alloc | apply Kd.R_drewN | apply Kd.R_drew)); exact HO442.out) hb); have n1_ := Aside0.mk (Kd.R_below (by (with_reducible repeat (first | apply Kd.R_alloc | apply Kd.R_drewN | apply Kd.R_drew)); exact HO445.out) hb); have n2_ := Aside0.mk (Kd.R_below (by (with_reducible repeat (first | apply Kd.R_alloc | apply Kd.R_drewN | apply Kd.R_drew)); exact HO452.out) hb); have n3_ := Aside0.mk (Kd.R_below (by (with_reducible repeat (first | apply Kd.R_alloc | apply Kd.R_drewN | apply Kd.R_drew)); exact HO455.out) hb); have n4_ := Aside0.mk (Kd.R_below (by (with_reducible repeat (first | apply Kd.R_alloc | apply Kd.R_drewN | apply Kd.R_drew)); exact HO459.out) hb); have n5_ := Aside0.mk (Kd.R_below (by (with_reducible repeat (first | apply Kd.R_alloc | apply Kd.R_drewN | apply Kd.R_drew)); exact HO463.out) hb); have n6_ := Aside0.mk (Kd.C_below (by repeat (first | (with_reducible exact HR449.out) | (with_reducible refine Kd.C_alloc ?_ _) | (with_reducible refine Kd.C_drewN ?_ _) | (with_reducible refine Kd.C_drew ?_) | exact HR449.out)) hb); have n7_ := Aside0.mk (below_step (by repeat (first | (with_reducible first | exact HB.out | apply below_alloc | apply pw_below_drewN | apply below_drew1) | exact HB.out)) hb); clear HO442; clear HO445; clear HO452; clear HO455; clear HO459; clear HO463; clear HR449; clear HB; have HO442 := n0_; have HO445 := n1_; have HO452 := n2_; have HO455 := n3_; have HO459 := n4_; have HO463 := n5_; have HR449 := n6_; have HB := n7_; clear n0_ n1_ n2_ n3_ n4_ n5_ n6_ n7_; (try clear hb); (try clear hb2); (try clear hk); (try clear hi)) | ((with_reducible refine gate_callee (f := 22) rfl ?_); refine goesL_ (some 52) rfl rfl Tryd.func22 (by kernel_rfl) rfl #[.slice Ao27 y446.length co27, .int .i64 a1] rfl (by (try simp only [List.map_toArray, List.map_cons, List.map_nil]); first | done | rfl | (simp only [List.length_drop, List.length_take]; rfl)) ?_; (with_reducible refine (words_Next.calls k _ _ y446 a1 t468 t469 _ ?side1 ?side2 ?side3 A15.out).mono ?_); (case side1 => repeat (first | exact (by repeat (first | (with_reducible exact HR449.out) | (with_reducible refine Kd.C_alloc ?_ _) | (with_reducible refine Kd.C_drewN ?_ _) | (with_reducible refine Kd.C_drew ?_) | exact HR449.out)) | (with_reducible refine Kd.C_alloc ?_ _) | (with_reducible refine Kd.C_drewN ?_ _) | (with_reducible refine Kd.C_drew ?_))); (case side2 => exact HC449.out); (case side3 => exact laid_below HLB.out (by repeat (first | (with_reducible first | exact HB.out | apply below_alloc | apply pw_below_drewN | apply below_drew1) | exact HB.out))); rintro e w33 ⟨rfl, hb⟩; refine ⟨_, rfl, ?_⟩; have n0_ := Aside0.mk (Kd.R_below (by (with_reducible repeat (first | apply Kd.R_alloc | apply Kd.R_drewN | apply Kd.R_drew)); exact HO442.out) hb); have n1_ := Aside0.mk (Kd.R_below (by (with_reducible repeat (first | apply Kd.R_alloc | apply Kd.R_drewN | apply Kd.R_drew)); exact HO445.out) hb); have n2_ := Aside0.mk (Kd.R_below (by (with_reducible repeat (first | apply Kd.R_alloc | apply Kd.R_drewN | apply Kd.R_drew)); exact HO452.out) hb); have n3_ := Aside0.mk (Kd.R_below (by (with_reducible repeat (first | apply Kd.R_alloc | apply Kd.R_drewN | apply Kd.R_drew)); exact HO455.out) hb); have n4_ := Aside0.mk (Kd.R_below (by (with_reducible repeat (first | apply Kd.R_alloc | apply Kd.R_drewN | apply Kd.R_drew)); exact HO459.out) hb); have n5_ := Aside0.mk (Kd.R_below (by (with_reducible repeat (first | apply Kd.R_alloc | apply Kd.R_drewN | apply Kd.R_drew)); exact HO463.out) hb); have n6_ := Aside0.mk (Kd.C_below (by repeat (first | (with_reducible exact HR449.out) | (with_reducible refine Kd.C_alloc ?_ _) | (with_reducible refine Kd.C_drewN ?_ _) | (with_reducible refine Kd.C_drew ?_) | exact HR449.out)) hb); have n7_ := Aside0.mk (below_step (by repeat (first | (with_reducible first | exact HB.out | apply below_alloc | apply pw_below_drewN | apply below_drew1) | exact HB.out)) hb); clear HO442; clear HO445; clear HO452; clear HO455; clear HO459; clear HO463; clear HR449; clear HB; have HO442 := n0_; have HO445 := n1_; have HO452 := n2_; have HO455 := n3_; have HO459 := n4_; have HO463 := n5_; have HR449 := n6_; have HB := n7_; clear n0_ n1_ n2_ n3_ n4_ n5_ n6_ n7_; (try clear hb); (try clear hb2); (try clear hk); (try clear hi)) | ((with_reducible refine gate_callee (f := 24) rfl ?_); refine goesL_ (some 55) rfl rfl Tryd.func24 (by kernel_rfl) rfl #[.slice Ao27 y446.length co27, .int .i64 a1] rfl (by (try simp only [List.map_toArray, List.map_cons, List.map_nil]); first | done | rfl | (simp only [List.length_drop, List.length_take]; rfl)) ?_; (with_reducible refine (words_Prev.calls k _ _ y446 a1 t470 t471 _ ?side1 ?side2 ?side3 A16.out).mono ?_); (case side1 => repeat (first | exact (by repeat (first | (with_reducible exact HR449.out) | (with_reducible refine Kd.C_alloc ?_ _) | (with_reducible refine Kd.C_drewN ?_ _) | (with_reducible refine Kd.C_drew ?_) | exact HR449.out)) | (with_reducible refine Kd.C_alloc ?_ _) | (with_reducible refine Kd.C_drewN ?_ _) | (with_reducible refine Kd.C_drew ?_))); (case side2 => exact HC449.out); (case side3 => exact laid_below HLB.out (by repeat (first | (with_reducible first | exact HB.out | apply below_alloc | apply pw_below_drewN | apply below_drew1) | exact HB.out))); rintro e w34 ⟨rfl, hb⟩; refine ⟨_, rfl, ?_⟩; have n0_ := Aside0.mk (Kd.R_below (by (with_reducible repeat (first | apply Kd.R_alloc | apply Kd.R_drewN | apply Kd.R_drew)); exact HO442.out) hb); have n1_ := Aside0.mk (Kd.R_below (by (with_reducible repeat (first | apply Kd.R_alloc | apply Kd.R_drewN | apply Kd.R_drew)); exact HO445.out) hb); have n2_ := Aside0.mk (Kd.R_below (by (with_reducible repeat (first | apply Kd.R_alloc | apply Kd.R_drewN | apply Kd.R_drew)); exact HO452.out) hb); have n3_ := Aside0.mk (Kd.R_below (by (with_reducible repeat (first | apply Kd.R_alloc | apply Kd.R_drewN | apply Kd.R_drew)); exact HO455.out) hb); have n4_ := Aside0.mk (Kd.R_below (by (with_reducible repeat (first | apply Kd.R_alloc | apply Kd.R_drewN | apply Kd.R_drew)); exact HO459.out) hb); have n5_ := Aside0.mk (Kd.R_below (by (with_reducible repeat (first | apply Kd.R_alloc | apply Kd.R_drewN | apply Kd.R_drew)); exact HO463.out) hb); have n6_ := Aside0.mk (Kd.C_below (by repeat (first | (with_reducible exact HR449.out) | (with_reducible refine Kd.C_alloc ?_ _) | (with_reducible refine Kd.C_drewN ?_ _) | (with_reducible refine Kd.C_drew ?_) | exact HR449.out)) hb); have n7_ := Aside0.mk (below_step (by repeat (first | (with_reducible first | exact HB.out | apply below_alloc | apply pw_below_drewN | apply below_drew1) | exact HB.out)) hb); clear HO442; clear HO445; clear HO452; clear HO455; clear HO459; clear HO463; clear HR449; clear HB; have HO442 := n0_; have HO445 := n1_; have HO452 := n2_; have HO455 := n3_; have HO459 := n4_; have HO463 := n5_; have HR449 := n6_; have HB := n7_; clear n0_ n1_ n2_ n3_ n4_ n5_ n6_ n7_; (try clear hb); (try clear hb2); (try clear hk); (try clear hi)) | ((with_reducible refine gate_callee (f := 26) rfl ?_); refine goesL_ (some 59) rfl rfl Tryd.func26 (by kernel_rfl) rfl #[.slice Ao27 y446.length co27, .int .i64 a1, .int .i64 a2] rfl (by (try simp only [List.map_toArray, List.map_cons, List.map_nil]); first | done | rfl | (simp only [List.length_drop, List.length_take]; rfl)) ?_; (with_reducible refine (words_Column.calls _ _ y446 a1 a2 t472 t473 _ ?side1 ?side2 ?side3 A17.out).mono ?_); (case side1 => repeat (first | exact (by repeat (first | (with_reducible exact HR449.out) | (with_reducible refine Kd.C_alloc ?_ _) | (with_reducible refine Kd.C_drewN ?_ _) | (with_reducible refine Kd.C_drew ?_) | exact HR449.out)) | (with_reducible refine Kd.C_alloc ?_ _) | (with_reducible refine Kd.C_drewN ?_ _) | (with_reducible refine Kd.C_drew ?_))); (case side2 => exact HC449.out); (case side3 => exact laid_below HLB.out (by repeat (first | (with_reducible first | exact HB.out | apply below_alloc | apply pw_below_drewN | apply below_drew1) | exact HB.out))); rintro e w35 ⟨rfl, hb⟩; refine ⟨_, rfl, ?_⟩; have n0_ := Aside0.mk (Kd.R_below (by (with_reducible repeat (first | apply Kd.R_alloc | apply Kd.R_drewN | apply Kd.R_drew)); exact HO442.out) hb); have n1_ := Aside0.mk (Kd.R_below (by (with_reducible repeat (first | apply Kd.R_alloc | apply Kd.R_drewN | apply Kd.R_drew)); exact HO445.out) hb); have n2_ := Aside0.mk (Kd.R_below (by (with_reducible repeat (first | apply Kd.R_alloc | apply Kd.R_drewN | apply Kd.R_drew)); exact HO452.out) hb); have n3_ := Aside0.mk (Kd.R_below (by (with_reducible repeat (first | apply Kd.R_alloc | apply Kd.R_drewN | apply Kd.R_drew)); exact HO455.out) hb); have n4_ := Aside0.mk (Kd.R_below (by (with_reducible repeat (first | apply Kd.R_alloc | apply Kd.R_drewN | apply Kd.R_drew)); exact HO459.out) hb); have n5_ := Aside0.mk (Kd.R_below (by (with_reducible repeat (first | apply Kd.R_alloc | apply Kd.R_drewN | apply Kd.R_drew)); exact HO463.out) hb); have n6_ := Aside0.mk (Kd.C_below (by repeat (first | (with_reducible exact HR449.out) | (with_reducible refine Kd.C_alloc ?_ _) | (with_reducible refine Kd.C_drewN ?_ _) | (with_reducible refine Kd.C_drew ?_) | exact HR449.out)) hb); have n7_ := Aside0.mk (below_step (by repeat (first | (with_reducible first | exact HB.out | apply below_alloc | apply pw_below_drewN | apply below_drew1) | exact HB.out)) hb); clear HO442; clear HO445; clear HO452; clear HO455; clear HO459; clear HO463; clear HR449; clear HB; have HO442 := n0_; have HO445 := n1_; have HO452 := n2_; have HO455 := n3_; have HO459 := n4_; have HO463 := n5_; have HR449 := n6_; have HB := n7_; clear n0_ n1_ n2_ n3_ n4_ n5_ n6_ n7_; (try clear hb); (try clear hb2); (try clear hk); (try clear hi); have hcv36 := own_string (P := Tryd.prog) Tryd.underlying29 Tryd.underlying5 Tryd.underlying9 (Kd.own_of_R HO445.out); have hcv37 := Kd.C_string (P := Tryd.prog) (A := A0) (c := c0) Tryd.underlying29 Tryd.underlying5 Tryd.underlying9 (Kd.C_below HR0.out HB.out); obtain ⟨Ao38, co38, eo38⟩ := Kd.R_slice HO452.out; subst eo38))
       go_loopg [68] k (fun kq v68 w' => ∃ (x9_1 : List (S36)) (x68_1 : Int), v68 = .int .i64 x68_1 ∧ Aside0 (galleylaw22_WordsOwn.l0 kq l0 a2 y443 x9_1 t453 t456 t460 (t450.length : Int) x68_1 = some r) ∧ Aside0 (kq ≤ k) ∧ Aside0 (Kd.R (Kd.int .u8) 5 w' w.heap.size (fun _ => True) (.slice Ao27 y443.length co27) y443) ∧ Aside0 (Kd.R k36 36 w' w.heap.size (fun k_ => some k_ ≠ (v454 : Value).ownBlock) (.slice Ao38 t450.length co38) x9_1) ∧ Aside0 (Kd.R k36 36 w' w.heap.size (fun k_ => some k_ ≠ ((.slice Ao38 t450.length co38) : Value).ownBlock) v454 t453) ∧ Aside0 (Kd.R (Kd.int .i64) 3 w' w.heap.size (fun k_ => some k_ ≠ (v462 : Value).ownBlock) v458 t456) ∧ Aside0 (Kd.R (Kd.int .i64) 3 w' w.heap.size (fun k_ => some k_ ≠ (v458 : Value).ownBlock) v462 t460) ∧ Aside0 (Below w.heap.size w w'))
       case atStart => exact ⟨(t450), (0), (by first | rfl | (simp; done) | (simp [*]; done)), H', ⟨Nat.le_refl _⟩, ⟨by (with_reducible repeat (first | apply Kd.R_alloc | apply Kd.R_drewN | apply Kd.R_drew)); exact Kd.R_mono HO445.out (fun _ hk => trivial)⟩, ⟨by (with_reducible repeat (first | apply Kd.R_alloc | apply Kd.R_drewN | apply Kd.R_drew)); exact Kd.R_mono HO452.out (fun _ hk => hk.2)⟩, ⟨by (with_reducible repeat (first | apply Kd.R_alloc | apply Kd.R_drewN | apply Kd.R_drew)); exact Kd.R_mono HO455.out (fun _ hk => hk.2)⟩, ⟨by (with_reducible repeat (first | apply Kd.R_alloc | apply Kd.R_drewN | apply Kd.R_drew)); exact Kd.R_mono HO459.out (fun _ hk => hk.2)⟩, ⟨by (with_reducible repeat (first | apply Kd.R_alloc | apply Kd.R_drewN | apply Kd.R_drew)); exact Kd.R_mono HO463.out (fun _ hk => hk.2)⟩, ⟨by repeat (first | (with_reducible first | exact HB.out | apply below_alloc | apply pw_below_drewN | apply below_drew1) | exact HB.out)⟩⟩
       case round =>
        clear H'
        try clear c1
        try clear c2
        try clear p2
        try clear q2
        try clear c3
        try clear hcv3
        try clear c5
        try clear c7
        try clear c8
        try clear c8b0
        try clear c8b1
        try clear c9
        try clear c9b0
        try clear c9b1
        try clear c11
        try clear c13
        try clear c17
        try clear c18
        try clear c18b0
        try clear c18b1
        try clear c18b2
        try clear c19
        try clear c19b0
        try clear c19b1
        try clear c20
        try clear c22
        try clear c24
        try clear c26
        try clear q26
        try clear c36
        try clear hcv36
        try clear hcv37
        try clear q26
        obtain ⟨x9_1, x68_1, rfl, HA, HK1, HO_7, HO_9, HO_10, HO_11, HO_13, HB⟩ := hrel
        have hl9_1 := (Kd.R_reads' HO_9.out).1
        rw [hl9_1] at HO_9
        (try simp only [hl9_1])
        (try simp only [hl9_1] at HO_7)
        (try simp only [hl9_1] at HO_10)
        (try simp only [hl9_1] at HO_11)
        (try simp only [hl9_1] at HO_13)
        cases gk with
        | zero => exact absurd HA.out (by simp [galleylaw22_WordsOwn.l0])
        | succ k1 =>
         have H := HA.out
         clear HA
         simp only [galleylaw22_WordsOwn.l0] at H
         by_cases c39 : x68_1 < (t450.length : Int)
         ·rw [if_pos c39] at H
          have c39b0 : decide (x68_1 < (t450.length : Int)) = true := decide_eq_true c39
          have c39b0z := c39b0
          (try simp only [hl11_2] at c39b0z)
          (try simp only [hl7_4] at c39b0z)
          (try simp only [hl9_1] at c39b0z)
          clear c39
          by_cases c40 : 0 ≤ x68_1
          ·rw [if_pos c40] at H
           have c40b0 : decide (0 ≤ x68_1) = true := decide_eq_true c40
           clear c40
           by_cases c41 : x68_1 < (x9_1.length : Int)
           ·rw [if_pos c41] at H
            have c41b0 : decide (x68_1 < (x9_1.length : Int)) = true := decide_eq_true c41
            have c41b0z := c41b0
            (try simp only [hl11_2] at c41b0z)
            (try simp only [hl7_4] at c41b0z)
            (try simp only [hl9_1] at c41b0z)
            clear c41
            obtain ⟨y474, hy474⟩ : ∃ y_ : List (S36), y_ = (x9_1.set (x68_1 : Int).toNat (⟨(-1), (-2)⟩ : S36)) := ⟨_, rfl⟩
            replace H : (galleylaw22_WordsOwn.l0 k1 l0 a2 y443 y474 t453 t456 t460 (t450.length : Int) (wrap64 (x68_1 + 1))) = some r := by first | (rw [hy474]; with_reducible exact H) | (have H2_ := (Option.bind_some _ _).symm.trans H; rw [hy474]; with_reducible exact H2_) | (have H2_ := (Option.bind_some _ _).symm.trans H; with_reducible exact H2_) | with_reducible exact H | (rw [hy474]; exact H) | exact H
            have Ny474 := Aside0.mk hy474
            clear hy474
            have H' := Aside0.mk H
            clear H
            have p42 : 0 ≤ (x68_1 : Int) := of_decide_eq_true (by first | (with_reducible assumption) | assumption)
            have q42 : (x68_1 : Int) < ((x9_1.length : Int) : Int) := of_decide_eq_true (by first | (with_reducible assumption) | assumption)
            obtain ⟨go42, co42, eo42, gb42, gl42, cl42, HG42⟩ := Kd.R_form HO_9.out (by omega)
            (first | cases eo42 | (injection eo42 with ea_ en_ ec_; (first | subst ea_ | (injection ea_ with ea_; subst ea_)); subst ec_; clear en_))
            have GB42 := Aside0.mk gb42
            have GG42 := Aside0.mk HG42
            clear gb42 gl42 HG42
            obtain ⟨ce42, hcl42, hM42, hcc42, hfr42⟩ := Kd.R_elem HO_9.out z36 (x68_1 : Int) p42 q42
            obtain rfl := k36_openM hM42
            have hx42_0 : wr.cell? ⟨go42, (x68_1 : Int).toNat * 2, none⟩ = some (.int .i64 ((rd_T36 x9_1 x68_1).f0)) := hcc42 0 _ rfl
            have hx42_1 : wr.cell? ⟨go42, (x68_1 : Int).toNat * 2 + 1, none⟩ = some (.int .i64 ((rd_T36 x9_1 x68_1).f1)) := hcc42 1 _ rfl
            have hf42_0 : wr.frozen? ⟨go42, (x68_1 : Int).toNat * 2, none⟩ = false := hfr42 0
            have hf42_1 : wr.frozen? ⟨go42, (x68_1 : Int).toNat * 2 + 1, none⟩ = false := hfr42 1
            clear hcl42 hcc42 hfr42 hM42
            replace p42 := eq_true p42
            replace q42 := eq_true q42
            have HX43 := Aside0.mk (show Kd.R k36 36 wr w.heap.size (fun k_ => some k_ ≠ (v454 : Value).ownBlock) (.slice (some ⟨go42, 0, none⟩) x9_1.length co38) x9_1 from (by (with_reducible repeat (first | apply Kd.R_alloc | apply Kd.R_drewN | apply Kd.R_drew)); exact HO_9.out))
            obtain ⟨ce43, hcl43, hM43, hcc43, hfr43⟩ := Kd.R_elem HX43.out z36 (x68_1 : Int) (of_decide_eq_true (by first | (with_reducible assumption) | assumption)) (by have h_ : (x68_1 : Int) < ((x9_1.length : Int) : Int) := of_decide_eq_true (by first | (with_reducible assumption) | assumption); first | exact h_ | (have e_ := (Kd.R_reads' HO_9.out).1; omega) | simpa using h_)
            obtain rfl := k36_openM hM43
            have HP43 := Kd.R_seg HX43.out (x68_1 : Int) (of_decide_eq_true (by first | (with_reducible assumption) | assumption)) (by have h_ : (x68_1 : Int) < ((x9_1.length : Int) : Int) := of_decide_eq_true (by first | (with_reducible assumption) | assumption); first | exact h_ | (have e_ := (Kd.R_reads' HO_9.out).1; omega) | simpa using h_) (seg := [.int .i64 (-1), .int .i64 (-2)]) (j := 0) hcl43 hcc43 (show 2 ≤ 2 from by decide) (x' := (⟨(-1), (-2)⟩ : S36)) (k36_mkM _ _ _ (⟨(-1), (-2)⟩ : S36) ) (fun _ hk => hk)
            have hx43_0 := hcc43 0 _ rfl
            (try simp only [show (k36).sz = 2 from rfl, Nat.mul_one, Nat.add_zero] at hx43_0)
            have hf43_0 := hfr43 0
            (try simp only [show (k36).sz = 2 from rfl, Nat.mul_one, Nat.add_zero] at hf43_0)
            have hx43_1 := hcc43 1 _ rfl
            (try simp only [show (k36).sz = 2 from rfl, Nat.mul_one, Nat.add_zero] at hx43_1)
            have hf43_1 := hfr43 1
            (try simp only [show (k36).sz = 2 from rfl, Nat.mul_one, Nat.add_zero] at hf43_1)
            clear hcl43 hcc43 hfr43 hM43
            go_wp2_with (first | ((with_reducible refine gate_store (t := 36) (p := 74) rfl ?_); refine store_event (t := 36) (p := 74) (v := ?vo_w44) (w1 := ((wr.setCell ⟨go42, (x68_1 : Int).toNat * 2, none⟩ (.int .i64 (-1))).setCell ⟨go42, (x68_1 : Int).toNat * 2 + 1, none⟩ (.int .i64 (-2)))) ?hg ?ho ?hn ?hr ?_; (case ho => rfl); (case hg => rfl); (case hn => rfl); (case hr => first | (go_simp; done) | (go_simp; rfl)); intro w44 hw; have hg : wr.grownBy w44 (some go42) := (by rw [hw]; exact HP43.2); have hp_ : Kd.R k36 36 w44 w.heap.size (fun k_ => some k_ ≠ (v454 : Value).ownBlock) (.slice (some ⟨go42, 0, none⟩) x9_1.length co38) y474 := (by rw [hw, Ny474.out]; exact HP43.1); clear HP43; have n0_ := Aside0.mk (Kd.R_over' (v := (.slice (some ⟨go42, 0, none⟩) x9_1.length co38)) (by (with_reducible repeat (first | apply Kd.R_alloc | apply Kd.R_drewN | apply Kd.R_drew)); exact HO_7.out) (Kd.R_typed HO_9.out) (by decide) hg); have n1_ := Aside0.mk (hp_); have n2_ := Aside0.mk (Kd.R_after (v := (.slice (some ⟨go42, 0, none⟩) x9_1.length co38)) (v1 := (.slice (some ⟨go42, 0, none⟩) x9_1.length co38)) (ok := (fun _ => True)) (by (with_reducible repeat (first | apply Kd.R_alloc | apply Kd.R_drewN | apply Kd.R_drew)); exact Kd.R_mono HO_10.out (fun _ hk => ⟨trivial, hk⟩)) hg (.inl rfl)); have n3_ := Aside0.mk (Kd.R_over' (v := (.slice (some ⟨go42, 0, none⟩) x9_1.length co38)) (by (with_reducible repeat (first | apply Kd.R_alloc | apply Kd.R_drewN | apply Kd.R_drew)); exact HO_11.out) (Kd.R_typed HO_9.out) (by decide) hg); have n4_ := Aside0.mk (Kd.R_over' (v := (.slice (some ⟨go42, 0, none⟩) x9_1.length co38)) (by (with_reducible repeat (first | apply Kd.R_alloc | apply Kd.R_drewN | apply Kd.R_drew)); exact HO_13.out) (Kd.R_typed HO_9.out) (by decide) hg); have n5_ := Aside0.mk ((by rw [hw]; exact below_set (below_set (HB.out) GB42.out) GB42.out : Below w.heap.size w w44)); clear HO_7; clear HO_9; clear HO_10; clear HO_11; clear HO_13; clear HB; have HO_7 := n0_; have HO_9 := n1_; have HO_10 := n2_; have HO_11 := n3_; have HO_13 := n4_; have HB := n5_; clear n0_ n1_ n2_ n3_ n4_ n5_; clear hg hw hp_))
            (try simp only [← hl9_1])
            go_roundg k1
            case measure => have := HK1.out; omega
            case rel => exact ⟨(y474), (wrap64 (x68_1 + 1)), (by first | rfl | (simp; done) | (simp [*]; done)), H', ⟨by have := HK1.out; omega⟩, ⟨by (try simp only [hl9_1]); (with_reducible repeat (first | apply Kd.R_alloc | apply Kd.R_drewN | apply Kd.R_drew)); exact HO_7.out⟩, ⟨by (try simp only [hl9_1]); (with_reducible repeat (first | apply Kd.R_alloc | apply Kd.R_drewN | apply Kd.R_drew)); exact HO_9.out⟩, ⟨by (try simp only [hl9_1]); (with_reducible repeat (first | apply Kd.R_alloc | apply Kd.R_drewN | apply Kd.R_drew)); exact Kd.R_mono HO_10.out (fun _ hk => hk.2)⟩, ⟨by (try simp only [hl9_1]); (with_reducible repeat (first | apply Kd.R_alloc | apply Kd.R_drewN | apply Kd.R_drew)); exact HO_11.out⟩, ⟨by (try simp only [hl9_1]); (with_reducible repeat (first | apply Kd.R_alloc | apply Kd.R_drewN | apply Kd.R_drew)); exact HO_13.out⟩, ⟨by repeat (first | (with_reducible first | exact HB.out | apply below_alloc | apply pw_below_drewN | apply below_drew1) | exact HB.out)⟩⟩
           ·rw [if_neg c41] at H
            exact absurd H (by simp)
          ·rw [if_neg c40] at H
           exact absurd H (by simp)
         ·rw [if_neg c39] at H
          have c39b0 : decide (x68_1 < (t450.length : Int)) = false := decide_eq_false c39
          have c39b0z := c39b0
          (try simp only [hl11_2] at c39b0z)
          (try simp only [hl7_4] at c39b0z)
          (try simp only [hl9_1] at c39b0z)
          clear c39
          have H' := Aside0.mk H
          clear H
          obtain ⟨Ao45, co45, eo45⟩ := Kd.R_slice HO_11.out
          subst eo45
          go_wp2
          go_loopg [78] k1 (fun kq v78 w' => ∃ (x11_2 : List Int) (x78_2 : Int), v78 = .int .i64 x78_2 ∧ Aside0 (galleylaw22_WordsOwn.l1 kq l0 a2 y443 x9_1 t453 x11_2 t460 (t456.length : Int) x78_2 = some r) ∧ Aside0 (kq ≤ k1) ∧ Aside0 (Kd.R (Kd.int .u8) 5 w' w.heap.size (fun _ => True) (.slice Ao27 y443.length co27) y443) ∧ Aside0 (Kd.R k36 36 w' w.heap.size (fun k_ => some k_ ≠ (v454 : Value).ownBlock) (.slice Ao38 x9_1.length co38) x9_1) ∧ Aside0 (Kd.R k36 36 w' w.heap.size (fun k_ => some k_ ≠ ((.slice Ao38 x9_1.length co38) : Value).ownBlock) v454 t453) ∧ Aside0 (Kd.R (Kd.int .i64) 3 w' w.heap.size (fun k_ => some k_ ≠ (v462 : Value).ownBlock) (.slice Ao45 t456.length co45) x11_2) ∧ Aside0 (Kd.R (Kd.int .i64) 3 w' w.heap.size (fun k_ => some k_ ≠ ((.slice Ao45 t456.length co45) : Value).ownBlock) v462 t460) ∧ Aside0 (Below w.heap.size w w'))
          case atStart => exact ⟨(t456), (0), (by first | rfl | (simp; done) | (simp [*]; done)), H', ⟨Nat.le_refl _⟩, ⟨by (try simp only [hl9_1]); (with_reducible repeat (first | apply Kd.R_alloc | apply Kd.R_drewN | apply Kd.R_drew)); exact HO_7.out⟩, ⟨by (try simp only [hl9_1]); (with_reducible repeat (first | apply Kd.R_alloc | apply Kd.R_drewN | apply Kd.R_drew)); exact HO_9.out⟩, ⟨by (try simp only [hl9_1]); (with_reducible repeat (first | apply Kd.R_alloc | apply Kd.R_drewN | apply Kd.R_drew)); exact HO_10.out⟩, ⟨by (try simp only [hl9_1]); (with_reducible repeat (first | apply Kd.R_alloc | apply Kd.R_drewN | apply Kd.R_drew)); exact HO_11.out⟩, ⟨by (try simp only [hl9_1]); (with_reducible repeat (first | apply Kd.R_alloc | apply Kd.R_drewN | apply Kd.R_drew)); exact HO_13.out⟩, ⟨by repeat (first | (with_reducible first | exact HB.out | apply below_alloc | apply pw_below_drewN | apply below_drew1) | exact HB.out)⟩⟩
          case round =>
           clear H'
           try clear c1
           try clear c2
           try clear p2
           try clear q2
           try clear c3
           try clear hcv3
           try clear c4
           try clear p4
           try clear q4
           try clear hx4
           try clear hf4
           try clear c5
           try clear p6
           try clear c7
           try clear c8
           try clear c8b0
           try clear c8b1
           try clear c9
           try clear c9b0
           try clear c9b1
           try clear c11
           try clear c13
           try clear c17
           try clear c18
           try clear c18b0
           try clear c18b1
           try clear c18b2
           try clear c19
           try clear c19b0
           try clear c19b1
           try clear c20
           try clear c22
           try clear c24
           try clear c26
           try clear q26
           try clear c36
           try clear hcv36
           try clear hcv37
           try clear c39
           try clear c39b0
           try clear c40
           try clear c40b0
           try clear c41
           try clear c41b0
           try clear c42
           try clear p42
           try clear q42
           try clear hx42
           try clear hf42
           try clear c43
           try clear hx43
           try clear hf43
           try clear hx42_0
           try clear hx42_1
           try clear hx43_0
           try clear hx43_1
           try clear p2
           try clear p42
           try clear q2
           try clear q26
           try clear q42
           obtain ⟨x11_2, x78_2, rfl, HA, HK2, HO_7, HO_9, HO_10, HO_11, HO_13, HB⟩ := hrel
           have hl11_2 := (Kd.R_reads' HO_11.out).1
           rw [hl11_2] at HO_11
           (try simp only [hl11_2])
           (try simp only [hl11_2] at HO_7)
           (try simp only [hl11_2] at HO_9)
           (try simp only [hl11_2] at HO_10)
           (try simp only [hl11_2] at HO_13)
           cases gk with
           | zero => exact absurd HA.out (by simp [galleylaw22_WordsOwn.l1])
           | succ k2 =>
            have H := HA.out
            clear HA
            simp only [galleylaw22_WordsOwn.l1] at H
            by_cases c46 : x78_2 < (t456.length : Int)
            ·rw [if_pos c46] at H
             have c46b0 : decide (x78_2 < (t456.length : Int)) = true := decide_eq_true c46
             have c46b0z := c46b0
             (try simp only [hl11_2] at c46b0z)
             (try simp only [hl7_4] at c46b0z)
             (try simp only [hl9_1] at c46b0z)
             clear c46
             by_cases c47 : 0 ≤ x78_2
             ·rw [if_pos c47] at H
              have c47b0 : decide (0 ≤ x78_2) = true := decide_eq_true c47
              clear c47
              by_cases c48 : x78_2 < (x11_2.length : Int)
              ·rw [if_pos c48] at H
               have c48b0 : decide (x78_2 < (x11_2.length : Int)) = true := decide_eq_true c48
               have c48b0z := c48b0
               (try simp only [hl11_2] at c48b0z)
               (try simp only [hl7_4] at c48b0z)
               (try simp only [hl9_1] at c48b0z)
               clear c48
               obtain ⟨y475, hy475⟩ : ∃ y_ : List Int, y_ = (x11_2.set (x78_2 : Int).toNat (-3)) := ⟨_, rfl⟩
               replace H : (galleylaw22_WordsOwn.l1 k2 l0 a2 y443 x9_1 t453 y475 t460 (t456.length : Int) (wrap64 (x78_2 + 1))) = some r := by first | (rw [hy475]; with_reducible exact H) | (have H2_ := (Option.bind_some _ _).symm.trans H; rw [hy475]; with_reducible exact H2_) | (have H2_ := (Option.bind_some _ _).symm.trans H; with_reducible exact H2_) | with_reducible exact H | (rw [hy475]; exact H) | exact H
               have Ny475 := Aside0.mk hy475
               clear hy475
               have H' := Aside0.mk H
               clear H
               have p49 : 0 ≤ (x78_2 : Int) := of_decide_eq_true (by first | (with_reducible assumption) | assumption)
               have q49 : (x78_2 : Int) < ((x11_2.length : Int) : Int) := of_decide_eq_true (by first | (with_reducible assumption) | assumption)
               obtain ⟨go49, co49, eo49, gb49, gl49, cl49, HG49⟩ := Kd.R_form HO_11.out (by omega)
               (first | cases eo49 | (injection eo49 with ea_ en_ ec_; (first | subst ea_ | (injection ea_ with ea_; subst ea_)); subst ec_; clear en_))
               have GB49 := Aside0.mk gb49
               have GG49 := Aside0.mk HG49
               clear gb49 gl49 HG49
               obtain ⟨hx49_0, hf49_0⟩ := Kd.R_celln 0 HO_11.out (x78_2 : Int) p49 q49
               replace p49 := eq_true p49
               replace q49 := eq_true q49
               have HP50 := Kd.R_putg HO_11.out (x78_2 : Int) (-3)
               go_wp2_with (first | ((with_reducible refine gate_store (t := 3) (p := 83) rfl ?_); refine store_event (t := 3) (p := 83) (v := ?vo_w51) (w1 := (wr.setCell ⟨go49, (x78_2 : Int).toNat, none⟩ (.int .i64 (-3)))) ?hg ?ho ?hn ?hr ?_; (case ho => rfl); (case hg => rfl); (case hn => rfl); (case hr => first | (go_simp; done) | (go_simp; rfl)); intro w51 hw; have hg : wr.grownBy w51 (some go49) := (by rw [hw]; exact HP50.2); have hp_ : Kd.R (Kd.int .i64) 3 w51 w.heap.size (fun k_ => some k_ ≠ (v462 : Value).ownBlock) (.slice (some ⟨go49, 0, none⟩) x11_2.length co45) y475 := (by rw [hw, Ny475.out]; exact HP50.1); clear HP50; have n0_ := Aside0.mk (Kd.R_over' (v := (.slice (some ⟨go49, 0, none⟩) x11_2.length co45)) (by (with_reducible repeat (first | apply Kd.R_alloc | apply Kd.R_drewN | apply Kd.R_drew)); exact HO_7.out) (Kd.R_typed HO_11.out) (by decide) hg); have n1_ := Aside0.mk (Kd.R_over' (v := (.slice (some ⟨go49, 0, none⟩) x11_2.length co45)) (by (with_reducible repeat (first | apply Kd.R_alloc | apply Kd.R_drewN | apply Kd.R_drew)); exact HO_9.out) (Kd.R_typed HO_11.out) (by decide) hg); have n2_ := Aside0.mk (Kd.R_over' (v := (.slice (some ⟨go49, 0, none⟩) x11_2.length co45)) (by (with_reducible repeat (first | apply Kd.R_alloc | apply Kd.R_drewN | apply Kd.R_drew)); exact HO_10.out) (Kd.R_typed HO_11.out) (by decide) hg); have n3_ := Aside0.mk (hp_); have n4_ := Aside0.mk (Kd.R_after (v := (.slice (some ⟨go49, 0, none⟩) x11_2.length co45)) (v1 := (.slice (some ⟨go49, 0, none⟩) x11_2.length co45)) (ok := (fun _ => True)) (by (with_reducible repeat (first | apply Kd.R_alloc | apply Kd.R_drewN | apply Kd.R_drew)); exact Kd.R_mono HO_13.out (fun _ hk => ⟨trivial, hk⟩)) hg (.inl rfl)); have n5_ := Aside0.mk ((by rw [hw]; exact below_set (HB.out) GB49.out : Below w.heap.size w w51)); clear HO_7; clear HO_9; clear HO_10; clear HO_11; clear HO_13; clear HB; have HO_7 := n0_; have HO_9 := n1_; have HO_10 := n2_; have HO_11 := n3_; have HO_13 := n4_; have HB := n5_; clear n0_ n1_ n2_ n3_ n4_ n5_; clear hg hw hp_))
               (try simp only [← hl11_2])
               go_roundg k2
               case measure => have := HK1.out; have := HK2.out; omega
               case rel => exact ⟨(y475), (wrap64 (x78_2 + 1)), (by first | rfl | (simp; done) | (simp [*]; done)), H', ⟨by have := HK1.out; have := HK2.out; omega⟩, ⟨by (try simp only [hl9_1]); (try simp only [hl11_2]); (with_reducible repeat (first | apply Kd.R_alloc | apply Kd.R_drewN | apply Kd.R_drew)); exact HO_7.out⟩, ⟨by (try simp only [hl9_1]); (try simp only [hl11_2]); (with_reducible repeat (first | apply Kd.R_alloc | apply Kd.R_drewN | apply Kd.R_drew)); exact HO_9.out⟩, ⟨by (try simp only [hl9_1]); (try simp only [hl11_2]); (with_reducible repeat (first | apply Kd.R_alloc | apply Kd.R_drewN | apply Kd.R_drew)); exact HO_10.out⟩, ⟨by (try simp only [hl9_1]); (try simp only [hl11_2]); (with_reducible repeat (first | apply Kd.R_alloc | apply Kd.R_drewN | apply Kd.R_drew)); exact HO_11.out⟩, ⟨by (try simp only [hl9_1]); (try simp only [hl11_2]); (with_reducible repeat (first | apply Kd.R_alloc | apply Kd.R_drewN | apply Kd.R_drew)); exact Kd.R_mono HO_13.out (fun _ hk => hk.2)⟩, ⟨by repeat (first | (with_reducible first | exact HB.out | apply below_alloc | apply pw_below_drewN | apply below_drew1) | exact HB.out)⟩⟩
              ·rw [if_neg c48] at H
               exact absurd H (by simp)
             ·rw [if_neg c47] at H
              exact absurd H (by simp)
            ·rw [if_neg c46] at H
             have c46b0 : decide (x78_2 < (t456.length : Int)) = false := decide_eq_false c46
             have c46b0z := c46b0
             (try simp only [hl11_2] at c46b0z)
             (try simp only [hl7_4] at c46b0z)
             (try simp only [hl9_1] at c46b0z)
             clear c46
             have H' := Aside0.mk H
             clear H
             go_wp2
             go_loopg [9, 11, 17] k2 (fun kq v9 v11 v17 w' => ∃ (x9_3 : List (S36)) (x11_3 : List Int) (x17_3 : Int), v17 = .int .i64 x17_3 ∧ Aside0 (galleylaw22_WordsOwn.l2 kq l0 a2 y443 x9_3 t453 x11_3 t460 x17_3 = some r) ∧ Aside0 (kq ≤ k2) ∧ Aside0 (Kd.R (Kd.int .u8) 5 w' w.heap.size (fun _ => True) (.slice Ao27 y443.length co27) y443) ∧ Aside0 (Kd.R k36 36 w' w.heap.size (fun k_ => some k_ ≠ (v454 : Value).ownBlock) v9 x9_3) ∧ Aside0 (Kd.R k36 36 w' w.heap.size (fun k_ => some k_ ≠ (v9 : Value).ownBlock) v454 t453) ∧ Aside0 (Kd.R (Kd.int .i64) 3 w' w.heap.size (fun k_ => some k_ ≠ (v462 : Value).ownBlock) v11 x11_3) ∧ Aside0 (Kd.R (Kd.int .i64) 3 w' w.heap.size (fun k_ => some k_ ≠ (v11 : Value).ownBlock) v462 t460) ∧ Aside0 (Below w.heap.size w w'))
             case atStart => exact ⟨(x9_1), (x11_2), (0), (by first | rfl | (simp; done) | (simp [*]; done)), H', ⟨Nat.le_refl _⟩, ⟨by (try simp only [hl9_1]); (try simp only [hl11_2]); (with_reducible repeat (first | apply Kd.R_alloc | apply Kd.R_drewN | apply Kd.R_drew)); exact HO_7.out⟩, ⟨by (try simp only [hl9_1]); (try simp only [hl11_2]); (with_reducible repeat (first | apply Kd.R_alloc | apply Kd.R_drewN | apply Kd.R_drew)); exact HO_9.out⟩, ⟨by (try simp only [hl9_1]); (try simp only [hl11_2]); (with_reducible repeat (first | apply Kd.R_alloc | apply Kd.R_drewN | apply Kd.R_drew)); exact HO_10.out⟩, ⟨by (try simp only [hl9_1]); (try simp only [hl11_2]); (with_reducible repeat (first | apply Kd.R_alloc | apply Kd.R_drewN | apply Kd.R_drew)); exact HO_11.out⟩, ⟨by (try simp only [hl9_1]); (try simp only [hl11_2]); (with_reducible repeat (first | apply Kd.R_alloc | apply Kd.R_drewN | apply Kd.R_drew)); exact HO_13.out⟩, ⟨by repeat (first | (with_reducible first | exact HB.out | apply below_alloc | apply pw_below_drewN | apply below_drew1) | exact HB.out)⟩⟩
             case round =>
              clear H'
              try clear c1
              try clear c2
              try clear p2
              try clear q2
              try clear c3
              try clear hcv3
              try clear c4
              try clear p4
              try clear q4
              try clear hx4
              try clear hf4
              try clear c5
              try clear p6
              try clear c7
              try clear c8
              try clear c8b0
              try clear c8b1
              try clear c9
              try clear c9b0
              try clear c9b1
              try clear c11
              try clear c13
              try clear c17
              try clear c18
              try clear c18b0
              try clear c18b1
              try clear c18b2
              try clear c19
              try clear c19b0
              try clear c19b1
              try clear c20
              try clear c22
              try clear c24
              try clear c26
              try clear q26
              try clear c36
              try clear hcv36
              try clear hcv37
              try clear c39
              try clear c39b0
              try clear c40
              try clear c40b0
              try clear c41
              try clear c41b0
              try clear c42
              try clear p42
              try clear q42
              try clear hx42
              try clear hf42
              try clear c43
              try clear hx43
              try clear hf43
              try clear c46
              try clear c46b0
              try clear c47
              try clear c47b0
              try clear c48
              try clear c48b0
              try clear p49
              try clear q49
              try clear hx49
              try clear hf49
              try clear hx42_0
              try clear hx42_1
              try clear hx43_0
              try clear hx43_1
              try clear hx49_0
              try clear p2
              try clear p4
              try clear p42
              try clear p49
              try clear p6
              try clear q2
              try clear q26
              try clear q4
              try clear q42
              try clear q49
              obtain ⟨x9_3, x11_3, x17_3, rfl, HA, HK3, HO_7, HO_9, HO_10, HO_11, HO_13, HB⟩ := hrel
              cases gk with
              | zero => exact absurd HA.out (by simp [galleylaw22_WordsOwn.l2])
              | succ k3 =>
               have H := HA.out
               clear HA
               simp only [galleylaw22_WordsOwn.l2] at H
               by_cases c52 : x17_3 < 40
               ·rw [if_pos c52] at H
                have c52b0 : decide (x17_3 < 40) = true := decide_eq_true c52
                clear c52
                by_cases c53 : x9_3.length < 8796093022208
                ·rw [if_pos c53] at H
                 have LMc53 := Aside0.mk c53
                 clear c53
                 obtain ⟨y476, hy476⟩ : ∃ y_ : List (S36), y_ = (x9_3 ++ [(⟨(-4), 0⟩ : S36)]) := ⟨_, rfl⟩
                 replace H : (if x11_3.length < 17592186044416 then (galleylaw22_WordsOwn.l2 k3 l0 a2 y443 y476 t453 (x11_3 ++ [(-5)]) t460 (wrap64 (x17_3 + 1))) else (none)) = some r := by first | (rw [hy476]; with_reducible exact H) | (have H2_ := (Option.bind_some _ _).symm.trans H; rw [hy476]; with_reducible exact H2_) | (have H2_ := (Option.bind_some _ _).symm.trans H; with_reducible exact H2_) | with_reducible exact H | (rw [hy476]; exact H) | exact H
                 have Ny476 := Aside0.mk hy476
                 clear hy476
                 by_cases c54 : x11_3.length < 17592186044416
                 ·rw [if_pos c54] at H
                  have LMc54 := Aside0.mk c54
                  clear c54
                  obtain ⟨y479, hy479⟩ : ∃ y_ : List Int, y_ = (x11_3 ++ [(-5)]) := ⟨_, rfl⟩
                  replace H : (galleylaw22_WordsOwn.l2 k3 l0 a2 y443 y476 t453 y479 t460 (wrap64 (x17_3 + 1))) = some r := by first | (rw [hy479]; with_reducible exact H) | (have H2_ := (Option.bind_some _ _).symm.trans H; rw [hy479]; with_reducible exact H2_) | (have H2_ := (Option.bind_some _ _).symm.trans H; with_reducible exact H2_) | with_reducible exact H | (rw [hy479]; exact H) | exact H
                  have Ny479 := Aside0.mk hy479
                  clear hy479
                  have H' := Aside0.mk H
                  clear H
                  go_wp2_with (first | ((with_reducible refine gate_builtin (b := .append) (xs := #[.tmp 89, .tmp 91]) rfl ?_); at_builtin; refine Kd.R_append k36 (w0 := w) w.heap.size rfl (.tmp 89) (.tmp 91) 31 36 (.agg #[(.int .i64 0), (.int .i64 0)]) 16 rfl Tryd.underlying31 info36 rfl (by decide) (by omega) u9 x9_3 (⟨(-4), 0⟩ : S36) [.int .i64 (-4), .int .i64 0] (fun k_ => some k_ ≠ (v454 : Value).ownBlock) (fun _ => False) rfl rfl ?aP (fun _ hk => hk.elim) ?aF ?aO ?aB ?aS ?aL ?_; (case aP => exact k36_mkM _ _ _ (⟨(-4), 0⟩ : S36)); (case aB => exact (by repeat (first | (with_reducible first | exact HB.out | apply below_alloc | apply pw_below_drewN | apply below_drew1) | exact HB.out))); (case aF => exact (fun k_ hk => Kd.fresh' (Kd.R_lt (by (with_reducible repeat (first | apply Kd.R_alloc | apply Kd.R_drewN | apply Kd.R_drew)); exact HO_10.out)) k_ hk)); (case aO => exact (by (with_reducible repeat (first | apply Kd.R_alloc | apply Kd.R_drewN | apply Kd.R_drew)); exact HO_9.out)); (case aS => exact (below_size (by repeat (first | (with_reducible first | exact HB.out | apply below_alloc | apply pw_below_drewN | apply below_drew1) | exact HB.out)))); (case aL => have := LMc53.out; omega); intro v477 w55 ho hb hg hat; rw [← Ny476.out] at ho; have n0_ := Aside0.mk (Kd.R_over' (by (with_reducible repeat (first | apply Kd.R_alloc | apply Kd.R_drewN | apply Kd.R_drew)); exact HO_7.out) (Kd.R_typed (by (with_reducible repeat (first | apply Kd.R_alloc | apply Kd.R_drewN | apply Kd.R_drew)); exact HO_9.out)) (by decide) hg); have n1_ := Aside0.mk (Kd.R_after (ok := (fun _ => True)) (by (with_reducible repeat (first | apply Kd.R_alloc | apply Kd.R_drewN | apply Kd.R_drew)); exact Kd.R_mono HO_10.out (fun _ hk => ⟨trivial, hk⟩)) hg hat); have n2_ := Aside0.mk (Kd.R_over' (by (with_reducible repeat (first | apply Kd.R_alloc | apply Kd.R_drewN | apply Kd.R_drew)); exact HO_11.out) (Kd.R_typed (by (with_reducible repeat (first | apply Kd.R_alloc | apply Kd.R_drewN | apply Kd.R_drew)); exact HO_9.out)) (by decide) hg); have n3_ := Aside0.mk (Kd.R_over' (by (with_reducible repeat (first | apply Kd.R_alloc | apply Kd.R_drewN | apply Kd.R_drew)); exact HO_13.out) (Kd.R_typed (by (with_reducible repeat (first | apply Kd.R_alloc | apply Kd.R_drewN | apply Kd.R_drew)); exact HO_9.out)) (by decide) hg); have n4_ := Aside0.mk (hb); have n5_ := Aside0.mk (ho); clear HO_7; clear HO_10; clear HO_11; clear HO_13; clear HB; clear HO_9; have HO_7 := n0_; have HO_10 := n1_; have HO_11 := n2_; have HO_13 := n3_; have HB := n4_; have HO478 := n5_; clear n0_ n1_ n2_ n3_ n4_ n5_; clear ho hb hg hat) | ((with_reducible refine gate_builtin (b := .append) (xs := #[.tmp 93, .tmp 94]) rfl ?_); at_builtin; refine Kd.R_append (Kd.int .i64) (w0 := w) w.heap.size rfl (.tmp 93) (.tmp 94) 69 3 (.int .i64 0) 8 rfl Tryd.underlying69 info3 rfl (by decide) (by omega) u11 x11_3 (-5) [.int .i64 (-5)] (fun k_ => some k_ ≠ (v462 : Value).ownBlock) (fun _ => False) rfl rfl ?aP (fun _ hk => hk.elim) ?aF ?aO ?aB ?aS ?aL ?_; (case aP => exact rfl); (case aB => exact (by repeat (first | (with_reducible first | exact HB.out | apply below_alloc | apply pw_below_drewN | apply below_drew1) | exact HB.out))); (case aF => exact (fun k_ hk => Kd.fresh' (Kd.R_lt (by (with_reducible repeat (first | apply Kd.R_alloc | apply Kd.R_drewN | apply Kd.R_drew)); exact HO_13.out)) k_ hk)); (case aO => exact (by (with_reducible repeat (first | apply Kd.R_alloc | apply Kd.R_drewN | apply Kd.R_drew)); exact HO_11.out)); (case aS => exact (below_size (by repeat (first | (with_reducible first | exact HB.out | apply below_alloc | apply pw_below_drewN | apply below_drew1) | exact HB.out)))); (case aL => have := LMc54.out; omega); intro v480 w56 ho hb hg hat; rw [← Ny479.out] at ho; have n0_ := Aside0.mk (Kd.R_over' (by (with_reducible repeat (first | apply Kd.R_alloc | apply Kd.R_drewN | apply Kd.R_drew)); exact HO_7.out) (Kd.R_typed (by (with_reducible repeat (first | apply Kd.R_alloc | apply Kd.R_drewN | apply Kd.R_drew)); exact HO_11.out)) (by decide) hg); have n1_ := Aside0.mk (Kd.R_over' (by (with_reducible repeat (first | apply Kd.R_alloc | apply Kd.R_drewN | apply Kd.R_drew)); exact HO_10.out) (Kd.R_typed (by (with_reducible repeat (first | apply Kd.R_alloc | apply Kd.R_drewN | apply Kd.R_drew)); exact HO_11.out)) (by decide) hg); have n2_ := Aside0.mk (Kd.R_after (ok := (fun _ => True)) (by (with_reducible repeat (first | apply Kd.R_alloc | apply Kd.R_drewN | apply Kd.R_drew)); exact Kd.R_mono HO_13.out (fun _ hk => ⟨trivial, hk⟩)) hg hat); have n3_ := Aside0.mk (Kd.R_over' (by (with_reducible repeat (first | apply Kd.R_alloc | apply Kd.R_drewN | apply Kd.R_drew)); exact HO478.out) (Kd.R_typed (by (with_reducible repeat (first | apply Kd.R_alloc | apply Kd.R_drewN | apply Kd.R_drew)); exact HO_11.out)) (by decide) hg); have n4_ := Aside0.mk (hb); have n5_ := Aside0.mk (ho); clear HO_7; clear HO_10; clear HO_13; clear HO478; clear HB; clear HO_11; have HO_7 := n0_; have HO_10 := n1_; have HO_13 := n2_; have HO478 := n3_; have HB := n4_; have HO481 := n5_; clear n0_ n1_ n2_ n3_ n4_ n5_; clear ho hb hg hat))
                  go_roundg k3
                  case measure => have := HK1.out; have := HK2.out; have := HK3.out; omega
                  case rel => exact ⟨(y476), (y479), (wrap64 (x17_3 + 1)), (by first | rfl | (simp; done) | (simp [*]; done)), H', ⟨by have := HK1.out; have := HK2.out; have := HK3.out; omega⟩, ⟨by (try simp only [hl9_1]); (try simp only [hl11_2]); (with_reducible repeat (first | apply Kd.R_alloc | apply Kd.R_drewN | apply Kd.R_drew)); exact HO_7.out⟩, ⟨by (try simp only [hl9_1]); (try simp only [hl11_2]); (with_reducible repeat (first | apply Kd.R_alloc | apply Kd.R_drewN | apply Kd.R_drew)); exact HO478.out⟩, ⟨by (try simp only [hl9_1]); (try simp only [hl11_2]); (with_reducible repeat (first | apply Kd.R_alloc | apply Kd.R_drewN | apply Kd.R_drew)); exact Kd.R_mono HO_10.out (fun _ hk => hk.2)⟩, ⟨by (try simp only [hl9_1]); (try simp only [hl11_2]); (with_reducible repeat (first | apply Kd.R_alloc | apply Kd.R_drewN | apply Kd.R_drew)); exact HO481.out⟩, ⟨by (try simp only [hl9_1]); (try simp only [hl11_2]); (with_reducible repeat (first | apply Kd.R_alloc | apply Kd.R_drewN | apply Kd.R_drew)); exact Kd.R_mono HO_13.out (fun _ hk => hk.2)⟩, ⟨by repeat (first | (with_reducible first | exact HB.out | apply below_alloc | apply pw_below_drewN | apply below_drew1) | exact HB.out)⟩⟩
                 ·rw [if_neg c54] at H
                  exact absurd H (by simp)
                ·rw [if_neg c53] at H
                 exact absurd H (by simp)
               ·rw [if_neg c52] at H
                have c52b0 : decide (x17_3 < 40) = false := decide_eq_false c52
                clear c52
                have H' := Aside0.mk H
                clear H
                go_wp2
                go_loopg [98] k3 (fun kq v98 w' => ∃ (x7_4 : List Int) (x98_4 : Int), v98 = .int .i64 x98_4 ∧ Aside0 (galleylaw22_WordsOwn.l3 kq l0 a2 x7_4 t453 t460 (y443.length : Int) x98_4 = some r) ∧ Aside0 (kq ≤ k3) ∧ Aside0 (Kd.R (Kd.int .u8) 5 w' w.heap.size (fun _ => True) (.slice Ao27 y443.length co27) x7_4) ∧ Aside0 (Kd.R k36 36 w' w.heap.size (fun _ => True) v454 t453) ∧ Aside0 (Kd.R (Kd.int .i64) 3 w' w.heap.size (fun _ => True) v462 t460) ∧ Aside0 (Below w.heap.size w w'))
                case atStart => exact ⟨(y443), (0), (by first | rfl | (simp; done) | (simp [*]; done)), H', ⟨Nat.le_refl _⟩, ⟨by (try simp only [hl9_1]); (try simp only [hl11_2]); (with_reducible repeat (first | apply Kd.R_alloc | apply Kd.R_drewN | apply Kd.R_drew)); exact HO_7.out⟩, ⟨by (try simp only [hl9_1]); (try simp only [hl11_2]); (with_reducible repeat (first | apply Kd.R_alloc | apply Kd.R_drewN | apply Kd.R_drew)); exact Kd.R_mono HO_10.out (fun _ hk => trivial)⟩, ⟨by (try simp only [hl9_1]); (try simp only [hl11_2]); (with_reducible repeat (first | apply Kd.R_alloc | apply Kd.R_drewN | apply Kd.R_drew)); exact Kd.R_mono HO_13.out (fun _ hk => trivial)⟩, ⟨by repeat (first | (with_reducible first | exact HB.out | apply below_alloc | apply pw_below_drewN | apply below_drew1) | exact HB.out)⟩⟩
                case round =>
                 clear H'
                 try clear c1
                 try clear c2
                 try clear p2
                 try clear q2
                 try clear c3
                 try clear hcv3
                 try clear c4
                 try clear p4
                 try clear q4
                 try clear hx4
                 try clear hf4
                 try clear c5
                 try clear p6
                 try clear c7
                 try clear c8
                 try clear c8b0
                 try clear c8b1
                 try clear c9
                 try clear c9b0
                 try clear c9b1
                 try clear c11
                 try clear c13
                 try clear c17
                 try clear c18
                 try clear c18b0
                 try clear c18b1
                 try clear c18b2
                 try clear c19
                 try clear c19b0
                 try clear c19b1
                 try clear c20
                 try clear c22
                 try clear c24
                 try clear c26
                 try clear q26
                 try clear c36
                 try clear hcv36
                 try clear hcv37
                 try clear c39
                 try clear c39b0
                 try clear c40
                 try clear c40b0
                 try clear c41
                 try clear c41b0
                 try clear c42
                 try clear p42
                 try clear q42
                 try clear hx42
                 try clear hf42
                 try clear c43
                 try clear hx43
                 try clear hf43
                 try clear c46
                 try clear c46b0
                 try clear c47
                 try clear c47b0
                 try clear c48
                 try clear c48b0
                 try clear p49
                 try clear q49
                 try clear hx49
                 try clear hf49
                 try clear c52
                 try clear c52b0
                 try clear c53
                 try clear c54
                 try clear hx42_0
                 try clear hx42_1
                 try clear hx43_0
                 try clear hx43_1
                 try clear hx49_0
                 try clear p2
                 try clear p4
                 try clear p42
                 try clear p49
                 try clear p6
                 try clear q2
                 try clear q26
                 try clear q4
                 try clear q42
                 try clear q49
                 obtain ⟨x7_4, x98_4, rfl, HA, HK4, HO_7, HO_10, HO_13, HB⟩ := hrel
                 have hl7_4 := (Kd.R_reads' HO_7.out).1
                 rw [hl7_4] at HO_7
                 (try simp only [hl7_4])
                 (try simp only [hl7_4] at HO_10)
                 (try simp only [hl7_4] at HO_13)
                 cases gk with
                 | zero => exact absurd HA.out (by simp [galleylaw22_WordsOwn.l3])
                 | succ k4 =>
                  have H := HA.out
                  clear HA
                  simp only [galleylaw22_WordsOwn.l3] at H
                  by_cases c57 : x98_4 < (y443.length : Int)
                  ·rw [if_pos c57] at H
                   have c57b0 : decide (x98_4 < (y443.length : Int)) = true := decide_eq_true c57
                   have c57b0z := c57b0
                   (try simp only [hl11_2] at c57b0z)
                   (try simp only [hl7_4] at c57b0z)
                   (try simp only [hl9_1] at c57b0z)
                   clear c57
                   by_cases c58 : 0 ≤ x98_4
                   ·rw [if_pos c58] at H
                    have c58b0 : decide (0 ≤ x98_4) = true := decide_eq_true c58
                    clear c58
                    by_cases c59 : x98_4 < (x7_4.length : Int)
                    ·rw [if_pos c59] at H
                     have c59b0 : decide (x98_4 < (x7_4.length : Int)) = true := decide_eq_true c59
                     have c59b0z := c59b0
                     (try simp only [hl11_2] at c59b0z)
                     (try simp only [hl7_4] at c59b0z)
                     (try simp only [hl9_1] at c59b0z)
                     clear c59
                     obtain ⟨y482, hy482⟩ : ∃ y_ : List Int, y_ = (x7_4.set (x98_4 : Int).toNat 32) := ⟨_, rfl⟩
                     replace H : (galleylaw22_WordsOwn.l3 k4 l0 a2 y482 t453 t460 (y443.length : Int) (wrap64 (x98_4 + 1))) = some r := by first | (rw [hy482]; with_reducible exact H) | (have H2_ := (Option.bind_some _ _).symm.trans H; rw [hy482]; with_reducible exact H2_) | (have H2_ := (Option.bind_some _ _).symm.trans H; with_reducible exact H2_) | with_reducible exact H | (rw [hy482]; exact H) | exact H
                     have Ny482 := Aside0.mk hy482
                     clear hy482
                     have H' := Aside0.mk H
                     clear H
                     have p60 : 0 ≤ (x98_4 : Int) := of_decide_eq_true (by first | (with_reducible assumption) | assumption)
                     have q60 : (x98_4 : Int) < ((x7_4.length : Int) : Int) := of_decide_eq_true (by first | (with_reducible assumption) | assumption)
                     obtain ⟨go60, co60, eo60, gb60, gl60, cl60, HG60⟩ := Kd.R_form HO_7.out (by omega)
                     (first | cases eo60 | (injection eo60 with ea_ en_ ec_; (first | subst ea_ | (injection ea_ with ea_; subst ea_)); subst ec_; clear en_))
                     have GB60 := Aside0.mk gb60
                     have GG60 := Aside0.mk HG60
                     clear gb60 gl60 HG60
                     obtain ⟨hx60_0, hf60_0⟩ := Kd.R_celln 0 HO_7.out (x98_4 : Int) p60 q60
                     replace p60 := eq_true p60
                     replace q60 := eq_true q60
                     have HP61 := Kd.R_putg HO_7.out (x98_4 : Int) 32
                     go_wp2_with (first | ((with_reducible refine gate_store (t := 5) (p := 103) rfl ?_); refine store_event (t := 5) (p := 103) (v := ?vo_w62) (w1 := (wr.setCell ⟨go60, (x98_4 : Int).toNat, none⟩ (.int .u8 32))) ?hg ?ho ?hn ?hr ?_; (case ho => rfl); (case hg => rfl); (case hn => rfl); (case hr => first | (go_simp; done) | (go_simp; rfl)); intro w62 hw; have hg : wr.grownBy w62 (some go60) := (by rw [hw]; exact HP61.2); have hp_ : Kd.R (Kd.int .u8) 5 w62 w.heap.size (fun _ => True) (.slice (some ⟨go60, 0, none⟩) x7_4.length co27) y482 := (by rw [hw, Ny482.out]; exact HP61.1); clear HP61; have n0_ := Aside0.mk (hp_); have n1_ := Aside0.mk (Kd.R_over' (v := (.slice (some ⟨go60, 0, none⟩) x7_4.length co27)) (by (with_reducible repeat (first | apply Kd.R_alloc | apply Kd.R_drewN | apply Kd.R_drew)); exact HO_10.out) (Kd.R_typed HO_7.out) (by decide) hg); have n2_ := Aside0.mk (Kd.R_over' (v := (.slice (some ⟨go60, 0, none⟩) x7_4.length co27)) (by (with_reducible repeat (first | apply Kd.R_alloc | apply Kd.R_drewN | apply Kd.R_drew)); exact HO_13.out) (Kd.R_typed HO_7.out) (by decide) hg); have n3_ := Aside0.mk ((by rw [hw]; exact below_set (HB.out) GB60.out : Below w.heap.size w w62)); clear HO_7; clear HO_10; clear HO_13; clear HB; have HO_7 := n0_; have HO_10 := n1_; have HO_13 := n2_; have HB := n3_; clear n0_ n1_ n2_ n3_; clear hg hw hp_))
                     (try simp only [← hl7_4])
                     go_roundg k4
                     case measure => have := HK1.out; have := HK2.out; have := HK3.out; have := HK4.out; omega
                     case rel => exact ⟨(y482), (wrap64 (x98_4 + 1)), (by first | rfl | (simp; done) | (simp [*]; done)), H', ⟨by have := HK1.out; have := HK2.out; have := HK3.out; have := HK4.out; omega⟩, ⟨by (try simp only [hl9_1]); (try simp only [hl11_2]); (try simp only [hl7_4]); (with_reducible repeat (first | apply Kd.R_alloc | apply Kd.R_drewN | apply Kd.R_drew)); exact HO_7.out⟩, ⟨by (try simp only [hl9_1]); (try simp only [hl11_2]); (try simp only [hl7_4]); (with_reducible repeat (first | apply Kd.R_alloc | apply Kd.R_drewN | apply Kd.R_drew)); exact HO_10.out⟩, ⟨by (try simp only [hl9_1]); (try simp only [hl11_2]); (try simp only [hl7_4]); (with_reducible repeat (first | apply Kd.R_alloc | apply Kd.R_drewN | apply Kd.R_drew)); exact HO_13.out⟩, ⟨by repeat (first | (with_reducible first | exact HB.out | apply below_alloc | apply pw_below_drewN | apply below_drew1) | exact HB.out)⟩⟩
                    ·rw [if_neg c59] at H
                     exact absurd H (by simp)
                   ·rw [if_neg c58] at H
                    exact absurd H (by simp)
                  ·rw [if_neg c57] at H
                   have c57b0 : decide (x98_4 < (y443.length : Int)) = false := decide_eq_false c57
                   have c57b0z := c57b0
                   (try simp only [hl11_2] at c57b0z)
                   (try simp only [hl7_4] at c57b0z)
                   (try simp only [hl9_1] at c57b0z)
                   clear c57
                   replace H := Option.bind_eq_some_iff.mp H
                   obtain ⟨⟨t483, t484⟩, A630, H⟩ := H
                   replace H : ((galleyref22_All.f k4 l0).bind fun t487 => ((galleyref22_SameHits.f k4 t453 t487).bind fun t490 => (if t490 = true then ((galleyref01_SameInts.f k4 t460 t483).bind fun t491 => (some t491)) else (some false)))) = some r := H
                   have A63 := Aside0.mk A630
                   clear A630
                   replace H := Option.bind_eq_some_iff.mp H
                   obtain ⟨t487, A640, H⟩ := H
                   replace H : ((galleyref22_SameHits.f k4 t453 t487).bind fun t490 => (if t490 = true then ((galleyref01_SameInts.f k4 t460 t483).bind fun t491 => (some t491)) else (some false))) = some r := H
                   have A64 := Aside0.mk A640
                   clear A640
                   replace H := Option.bind_eq_some_iff.mp H
                   obtain ⟨t490, A650, H⟩ := H
                   replace H : (if t490 = true then ((galleyref01_SameInts.f k4 t460 t483).bind fun t491 => (some t491)) else (some false)) = some r := H
                   have A65 := Aside0.mk A650
                   clear A650
                   by_cases c66 : t490 = true
                   ·subst c66
                    have H1 : ((galleyref01_SameInts.f k4 t460 t483).bind fun t491 => (some t491)) = some r := by rw [if_pos rfl] at H; exact H
                    clear H
                    have H := H1
                    clear H1
                    replace H := Option.bind_eq_some_iff.mp H
                    obtain ⟨t491, A670, H⟩ := H
                    replace H : (some t491) = some r := H
                    have A67 := Aside0.mk A670
                    clear A670
                    obtain rfl := Option.some.inj H
                    go_wp2_with (first | ((with_reducible refine gate_callee (f := 37) rfl ?_); refine goesL_ (some 108) rfl rfl Tryd.func37 (by kernel_rfl) rfl #[.slice A0 l0.length c0, .int .i64 a2] rfl (by (try simp only [List.map_toArray, List.map_cons, List.map_nil]); first | done | rfl | (simp only [List.length_drop, List.length_take]; rfl)) ?_; (with_reducible refine (galleyref22_Wrap.calls k4 _ _ l0 a2 t483 t484 _ ?side1 ?side2 A63.out).mono ?_); (case side1 => repeat (first | exact (Kd.C_below HR0.out HB.out) | (with_reducible refine Kd.C_alloc ?_ _) | (with_reducible refine Kd.C_drewN ?_ _) | (with_reducible refine Kd.C_drew ?_))); (case side2 => exact HC0.out); rintro e w68 ⟨v485, rfl, ho0, hb⟩; refine ⟨_, rfl, ?_⟩; have n0_ := Aside0.mk (Kd.R_below (by (with_reducible repeat (first | apply Kd.R_alloc | apply Kd.R_drewN | apply Kd.R_drew)); exact HO_7.out) hb); have n1_ := Aside0.mk (Kd.R_below (by (with_reducible repeat (first | apply Kd.R_alloc | apply Kd.R_drewN | apply Kd.R_drew)); exact HO_10.out) hb); have n2_ := Aside0.mk (Kd.R_elder' (by (with_reducible repeat (first | apply Kd.R_alloc | apply Kd.R_drewN | apply Kd.R_drew)); exact HO_13.out) (Kd.R_base ho0) hb); have n3_ := Aside0.mk (Kd.R_lower (Kd.R_new' ho0 (Kd.R_lt (by (with_reducible repeat (first | apply Kd.R_alloc | apply Kd.R_drewN | apply Kd.R_drew)); exact HO_13.out))) (below_size (by repeat (first | (with_reducible first | exact HB.out | apply below_alloc | apply pw_below_drewN | apply below_drew1) | exact HB.out)))); have n4_ := Aside0.mk (below_step (by repeat (first | (with_reducible first | exact HB.out | apply below_alloc | apply pw_below_drewN | apply below_drew1) | exact HB.out)) hb); clear HO_7; clear HO_10; clear HO_13; clear HB; have HO_7 := n0_; have HO_10 := n1_; have HO_13 := n2_; have HO486 := n3_; have HB := n4_; clear n0_ n1_ n2_ n3_ n4_; (try clear hb); (try clear hb2); (try clear hk); (try clear hi); (try clear ho0)) | ((with_reducible refine gate_callee (f := 19) rfl ?_); refine goesL_ (some 113) rfl rfl Tryd.func19 (by kernel_rfl) rfl #[.slice A0 l0.length c0] rfl (by (try simp only [List.map_toArray, List.map_cons, List.map_nil]); first | done | rfl | (simp only [List.length_drop, List.length_take]; rfl)) ?_; (with_reducible refine (galleyref22_All.calls k4 _ _ l0 t487 _ ?side1 ?side2 A64.out).mono ?_); (case side1 => repeat (first | exact (Kd.C_below HR0.out HB.out) | (with_reducible refine Kd.C_alloc ?_ _) | (with_reducible refine Kd.C_drewN ?_ _) | (with_reducible refine Kd.C_drew ?_))); (case side2 => exact HC0.out); rintro e w69 ⟨v488, rfl, ho0, hb⟩; refine ⟨_, rfl, ?_⟩; have n0_ := Aside0.mk (Kd.R_below (by (with_reducible repeat (first | apply Kd.R_alloc | apply Kd.R_drewN | apply Kd.R_drew)); exact HO_7.out) hb); have n1_ := Aside0.mk (Kd.R_elder' (by (with_reducible repeat (first | apply Kd.R_alloc | apply Kd.R_drewN | apply Kd.R_drew)); exact HO_10.out) (Kd.R_base ho0) hb); have n2_ := Aside0.mk (Kd.R_below (by (with_reducible repeat (first | apply Kd.R_alloc | apply Kd.R_drewN | apply Kd.R_drew)); exact HO_13.out) hb); have n3_ := Aside0.mk (Kd.R_below (by (with_reducible repeat (first | apply Kd.R_alloc | apply Kd.R_drewN | apply Kd.R_drew)); exact HO486.out) hb); have n4_ := Aside0.mk (Kd.R_lower (Kd.R_new' ho0 (Kd.R_lt (by (with_reducible repeat (first | apply Kd.R_alloc | apply Kd.R_drewN | apply Kd.R_drew)); exact HO_10.out))) (below_size (by repeat (first | (with_reducible first | exact HB.out | apply below_alloc | apply pw_below_drewN | apply below_drew1) | exact HB.out)))); have n5_ := Aside0.mk (below_step (by repeat (first | (with_reducible first | exact HB.out | apply below_alloc | apply pw_below_drewN | apply below_drew1) | exact HB.out)) hb); clear HO_7; clear HO_10; clear HO_13; clear HO486; clear HB; have HO_7 := n0_; have HO_10 := n1_; have HO_13 := n2_; have HO486 := n3_; have HO489 := n4_; have HB := n5_; clear n0_ n1_ n2_ n3_ n4_ n5_; (try clear hb); (try clear hb2); (try clear hk); (try clear hi); (try clear ho0); obtain ⟨Ao70, co70, eo70⟩ := Kd.R_slice HO_10.out; subst eo70; obtain ⟨Ao71, co71, eo71⟩ := Kd.R_slice HO489.out; subst eo71) | ((with_reducible refine gate_callee (f := 16) rfl ?_); refine goesL_ (some 114) rfl rfl Tryd.func16 (by kernel_rfl) rfl #[.slice Ao70 t453.length co70, .slice Ao71 t487.length co71] rfl (by (try simp only [List.map_toArray, List.map_cons, List.map_nil]); first | done | rfl | (simp only [List.length_drop, List.length_take]; rfl)) ?_; (with_reducible refine (galleyref22_SameHits.calls k4 _ _ t453 _ _ t487 true _ ?side1 ?side2 ?side3 ?side4 A65.out).mono ?_); (case side1 => repeat (first | exact (Kd.R_reads' HO_10.out).2.2 | (with_reducible refine Kd.C_alloc ?_ _) | (with_reducible refine Kd.C_drewN ?_ _) | (with_reducible refine Kd.C_drew ?_))); (case side2 => exact (Kd.R_reads' HO_10.out).2.1); (case side3 => repeat (first | exact (Kd.R_reads' HO489.out).2.2 | (with_reducible refine Kd.C_alloc ?_ _) | (with_reducible refine Kd.C_drewN ?_ _) | (with_reducible refine Kd.C_drew ?_))); (case side4 => exact (Kd.R_reads' HO489.out).2.1); rintro e w' ⟨rfl, ⟨nd, rfl⟩⟩; refine ⟨_, rfl, ?_⟩; obtain ⟨Ao72, co72, eo72⟩ := Kd.R_slice HO_13.out; subst eo72; obtain ⟨Ao73, co73, eo73⟩ := Kd.R_slice HO486.out; subst eo73) | (go_at_call 38; (with_reducible refine (galleyref01_SameInts.calls k4 _ _ t460 _ _ t483 t491 _ ?side1 ?side2 ?side3 ?side4 A67.out).mono ?_); (case side1 => repeat (first | exact (Kd.R_reads' HO_13.out).2.2 | (with_reducible refine Kd.C_alloc ?_ _) | (with_reducible refine Kd.C_drewN ?_ _) | (with_reducible refine Kd.C_drew ?_))); (case side2 => exact (Kd.R_reads' HO_13.out).2.1); (case side3 => repeat (first | exact (Kd.R_reads' HO486.out).2.2 | (with_reducible refine Kd.C_alloc ?_ _) | (with_reducible refine Kd.C_drewN ?_ _) | (with_reducible refine Kd.C_drew ?_))); (case side4 => exact (Kd.R_reads' HO486.out).2.1); rintro e w' ⟨rfl, ⟨nd, rfl⟩⟩))
                    go_ret
                    exact ⟨by first | rfl | (simp [errW_none, errW_some] <;> rfl) | (simp [*, errW_none, errW_some] <;> rfl), by repeat (first | (with_reducible first | exact HB.out | apply below_alloc | apply pw_below_drewN | apply below_drew1) | exact HB.out)⟩
                   ·replace c66 := Bool.eq_false_iff.mpr c66
                    subst c66
                    have H1 : (some false) = some r := by rw [if_neg (show ¬ (false = true) by decide)] at H; exact H
                    clear H
                    have H := H1
                    clear H1
                    obtain rfl := Option.some.inj H
                    go_wp2_with (first | ((with_reducible refine gate_callee (f := 37) rfl ?_); refine goesL_ (some 108) rfl rfl Tryd.func37 (by kernel_rfl) rfl #[.slice A0 l0.length c0, .int .i64 a2] rfl (by (try simp only [List.map_toArray, List.map_cons, List.map_nil]); first | done | rfl | (simp only [List.length_drop, List.length_take]; rfl)) ?_; (with_reducible refine (galleyref22_Wrap.calls k4 _ _ l0 a2 t483 t484 _ ?side1 ?side2 A63.out).mono ?_); (case side1 => repeat (first | exact (Kd.C_below HR0.out HB.out) | (with_reducible refine Kd.C_alloc ?_ _) | (with_reducible refine Kd.C_drewN ?_ _) | (with_reducible refine Kd.C_drew ?_))); (case side2 => exact HC0.out); rintro e w74 ⟨v485, rfl, ho0, hb⟩; refine ⟨_, rfl, ?_⟩; have n0_ := Aside0.mk (Kd.R_below (by (with_reducible repeat (first | apply Kd.R_alloc | apply Kd.R_drewN | apply Kd.R_drew)); exact HO_7.out) hb); have n1_ := Aside0.mk (Kd.R_below (by (with_reducible repeat (first | apply Kd.R_alloc | apply Kd.R_drewN | apply Kd.R_drew)); exact HO_10.out) hb); have n2_ := Aside0.mk (Kd.R_elder' (by (with_reducible repeat (first | apply Kd.R_alloc | apply Kd.R_drewN | apply Kd.R_drew)); exact HO_13.out) (Kd.R_base ho0) hb); have n3_ := Aside0.mk (Kd.R_lower (Kd.R_new' ho0 (Kd.R_lt (by (with_reducible repeat (first | apply Kd.R_alloc | apply Kd.R_drewN | apply Kd.R_drew)); exact HO_13.out))) (below_size (by repeat (first | (with_reducible first | exact HB.out | apply below_alloc | apply pw_below_drewN | apply below_drew1) | exact HB.out)))); have n4_ := Aside0.mk (below_step (by repeat (first | (with_reducible first | exact HB.out | apply below_alloc | apply pw_below_drewN | apply below_drew1) | exact HB.out)) hb); clear HO_7; clear HO_10; clear HO_13; clear HB; have HO_7 := n0_; have HO_10 := n1_; have HO_13 := n2_; have HO486 := n3_; have HB := n4_; clear n0_ n1_ n2_ n3_ n4_; (try clear hb); (try clear hb2); (try clear hk); (try clear hi); (try clear ho0)) | ((with_reducible refine gate_callee (f := 19) rfl ?_); refine goesL_ (some 113) rfl rfl Tryd.func19 (by kernel_rfl) rfl #[.slice A0 l0.length c0] rfl (by (try simp only [List.map_toArray, List.map_cons, List.map_nil]); first | done | rfl | (simp only [List.length_drop, List.length_take]; rfl)) ?_; (with_reducible refine (galleyref22_All.calls k4 _ _ l0 t487 _ ?side1 ?side2 A64.out).mono ?_); (case side1 => repeat (first | exact (Kd.C_below HR0.out HB.out) | (with_reducible refine Kd.C_alloc ?_ _) | (with_reducible refine Kd.C_drewN ?_ _) | (with_reducible refine Kd.C_drew ?_))); (case side2 => exact HC0.out); rintro e w75 ⟨v488, rfl, ho0, hb⟩; refine ⟨_, rfl, ?_⟩; have n0_ := Aside0.mk (Kd.R_below (by (with_reducible repeat (first | apply Kd.R_alloc | apply Kd.R_drewN | apply Kd.R_drew)); exact HO_7.out) hb); have n1_ := Aside0.mk (Kd.R_elder' (by (with_reducible repeat (first | apply Kd.R_alloc | apply Kd.R_drewN | apply Kd.R_drew)); exact HO_10.out) (Kd.R_base ho0) hb); have n2_ := Aside0.mk (Kd.R_below (by (with_reducible repeat (first | apply Kd.R_alloc | apply Kd.R_drewN | apply Kd.R_drew)); exact HO_13.out) hb); have n3_ := Aside0.mk (Kd.R_below (by (with_reducible repeat (first | apply Kd.R_alloc | apply Kd.R_drewN | apply Kd.R_drew)); exact HO486.out) hb); have n4_ := Aside0.mk (Kd.R_lower (Kd.R_new' ho0 (Kd.R_lt (by (with_reducible repeat (first | apply Kd.R_alloc | apply Kd.R_drewN | apply Kd.R_drew)); exact HO_10.out))) (below_size (by repeat (first | (with_reducible first | exact HB.out | apply below_alloc | apply pw_below_drewN | apply below_drew1) | exact HB.out)))); have n5_ := Aside0.mk (below_step (by repeat (first | (with_reducible first | exact HB.out | apply below_alloc | apply pw_below_drewN | apply below_drew1) | exact HB.out)) hb); clear HO_7; clear HO_10; clear HO_13; clear HO486; clear HB; have HO_7 := n0_; have HO_10 := n1_; have HO_13 := n2_; have HO486 := n3_; have HO489 := n4_; have HB := n5_; clear n0_ n1_ n2_ n3_ n4_ n5_; (try clear hb); (try clear hb2); (try clear hk); (try clear hi); (try clear ho0); obtain ⟨Ao76, co76, eo76⟩ := Kd.R_slice HO_10.out; subst eo76; obtain ⟨Ao77, co77, eo77⟩ := Kd.R_slice HO489.out; subst eo77) | ((with_reducible refine gate_callee (f := 16) rfl ?_); refine goesL_ (some 114) rfl rfl Tryd.func16 (by kernel_rfl) rfl #[.slice Ao76 t453.length co76, .slice Ao77 t487.length co77] rfl (by (try simp only [List.map_toArray, List.map_cons, List.map_nil]); first | done | rfl | (simp only [List.length_drop, List.length_take]; rfl)) ?_; (with_reducible refine (galleyref22_SameHits.calls k4 _ _ t453 _ _ t487 false _ ?side1 ?side2 ?side3 ?side4 A65.out).mono ?_); (case side1 => repeat (first | exact (Kd.R_reads' HO_10.out).2.2 | (with_reducible refine Kd.C_alloc ?_ _) | (with_reducible refine Kd.C_drewN ?_ _) | (with_reducible refine Kd.C_drew ?_))); (case side2 => exact (Kd.R_reads' HO_10.out).2.1); (case side3 => repeat (first | exact (Kd.R_reads' HO489.out).2.2 | (with_reducible refine Kd.C_alloc ?_ _) | (with_reducible refine Kd.C_drewN ?_ _) | (with_reducible refine Kd.C_drew ?_))); (case side4 => exact (Kd.R_reads' HO489.out).2.1); rintro e w' ⟨rfl, ⟨nd, rfl⟩⟩; refine ⟨_, rfl, ?_⟩))
                    go_ret
                    exact ⟨by first | rfl | (simp [errW_none, errW_some] <;> rfl) | (simp [*, errW_none, errW_some] <;> rfl), by repeat (first | (with_reducible first | exact HB.out | apply below_alloc | apply pw_below_drewN | apply below_drew1) | exact HB.out)⟩
      ·rw [if_neg c19] at H
       have c19b0 : ((strOfNums y443).toList == ((strOfNums l0) ++ (⟨#[65, 66]⟩ : ByteArray)).toList) = false := beq_eq_false_iff_ne.mpr c19
       have c19b1 : ((strOfNums y443).toList != ((strOfNums l0) ++ (⟨#[65, 66]⟩ : ByteArray)).toList) = true := bne_iff_ne.mpr c19
       obtain rfl := Option.some.inj H
       go_enter Tryd.func11, Tryd.ntmps11
       go_wp2_with (first | ((with_reducible refine gate_callee (f := 13) rfl ?_); refine goesL_ (some 21) rfl rfl Tryd.func13 (by kernel_rfl) rfl #[] rfl (by (try simp only [List.map_toArray, List.map_cons, List.map_nil]); first | done | rfl | (simp only [List.length_drop, List.length_take]; rfl)) ?_; (with_reducible refine (galleylaw22_wakes.calls  true _ ?side1 A4.out).mono ?_); (case side1 => exact laid_below HLB.out (by repeat (first | (with_reducible first | exact HB.out | apply below_alloc | apply pw_below_drewN | apply below_drew1) | exact HB.out))); rintro e w78 ⟨rfl, hb⟩; refine ⟨_, rfl, ?_⟩; have n0_ := Aside0.mk (below_step (by repeat (first | (with_reducible first | exact HB.out | apply below_alloc | apply pw_below_drewN | apply below_drew1) | exact HB.out)) hb); clear HB; have HB := n0_; clear n0_; (try clear hb); (try clear hb2); (try clear hk); (try clear hi)) | ((with_reducible refine gate_callee (f := 18) rfl ?_); refine goesL_ (some 24) rfl rfl Tryd.func18 (by kernel_rfl) rfl #[.slice A0 l0.length c0] rfl (by (try simp only [List.map_toArray, List.map_cons, List.map_nil]); first | done | rfl | (simp only [List.length_drop, List.length_take]; rfl)) ?_; (with_reducible refine (galleylaw22_own.calls _ _ l0 t437 _ ?side1 ?side2 A6.out).mono ?_); (case side1 => repeat (first | exact (Kd.C_below HR0.out HB.out) | (with_reducible refine Kd.C_alloc ?_ _) | (with_reducible refine Kd.C_drewN ?_ _) | (with_reducible refine Kd.C_drew ?_))); (case side2 => exact HC0.out); rintro e w79 ⟨v438, rfl, ho0, hb⟩; refine ⟨_, rfl, ?_⟩; have n0_ := Aside0.mk (Kd.R_lower ho0 (below_size (by repeat (first | (with_reducible first | exact HB.out | apply below_alloc | apply pw_below_drewN | apply below_drew1) | exact HB.out)))); have n1_ := Aside0.mk (below_step (by repeat (first | (with_reducible first | exact HB.out | apply below_alloc | apply pw_below_drewN | apply below_drew1) | exact HB.out)) hb); clear HB; have HO439 := n0_; have HB := n1_; clear n0_ n1_; (try clear hb); (try clear hb2); (try clear hk); (try clear hi); (try clear ho0)) | ((with_reducible refine gate_dst (N := 25) rfl ?_); refine Kd.R_lit (Kd.int .u8) _ 5 ?hg (N := 25) ?hd (xs := ([65, 66] : List Int)) (inner := [.int .u8 65, .int .u8 66]) (ok := fun _ => True) (okp := fun _ => True) ?hr ?hp (fun _ hk => hk) trivial (Below.refl _ _) (Nat.le_refl _) (by simp) ?_; (case hd => rfl); (case hg => rfl); (case hr => first | (go_simp; done) | (go_simp; rfl)); (case hp => exact (Reps.one (show Kd.M (Kd.int .u8) _ _ _ 65 [.int .u8 65] from rfl) (Reps.one (show Kd.M (Kd.int .u8) _ _ _ 66 [.int .u8 66] from rfl) (Reps.none _ _)))); intro v441 w80 ho81 hb hg_ hnew_; clear hg_ hnew_; (first | rw [← Ny440.out] at ho81 | (simp only [Int.reduceToNat] at ho81; rw [← Ny440.out] at ho81)); have n0_ := Aside0.mk (Kd.R_elder' (by (with_reducible repeat (first | apply Kd.R_alloc | apply Kd.R_drewN | apply Kd.R_drew)); exact HO439.out) (Kd.R_base ho81) hb); have n1_ := Aside0.mk (Kd.R_lower (Kd.R_new' ho81 (Kd.R_lt (by (with_reducible repeat (first | apply Kd.R_alloc | apply Kd.R_drewN | apply Kd.R_drew)); exact HO439.out))) (below_size (by repeat (first | (with_reducible first | exact HB.out | apply below_alloc | apply pw_below_drewN | apply below_drew1) | exact HB.out)))); have n2_ := Aside0.mk (below_step (by repeat (first | (with_reducible first | exact HB.out | apply below_alloc | apply pw_below_drewN | apply below_drew1) | exact HB.out)) hb); clear HO439; clear HB; have HO439 := n0_; have HO442 := n1_; have HB := n2_; clear n0_ n1_ n2_; clear hb ho81; obtain ⟨Ao83, co83, eo83⟩ := Kd.R_slice HO442.out; subst eo83) | ((with_reducible refine gate_builtin (b := .append) (xs := #[.tmp 24, .tmp 25]) rfl ?_); at_builtin; refine Kd.R_append_rows (Kd.int .u8) (w0 := w) w.heap.size rfl (.tmp 24) (.tmp 25) 29 5 (.int .u8 0) 1 rfl Tryd.underlying29 info5 rfl (by decide) (by omega) v438 t437 y440 _ _ _ (fun k_ => some k_ ≠ (.slice Ao83 y440.length co83 : Value).ownBlock) (fun _ => False) rfl rfl ?aO ?aR (fun _ _ h => h) (fun _ h => h.elim) ?aF ?aB ?aS ?aL ?_; (case aR => repeat (first | exact (Kd.R_reads' HO442.out).2.2 | (with_reducible refine Kd.C_alloc ?_ _) | (with_reducible refine Kd.C_drewN ?_ _) | (with_reducible refine Kd.C_drew ?_))); (case aB => exact (by repeat (first | (with_reducible first | exact HB.out | apply below_alloc | apply pw_below_drewN | apply below_drew1) | exact HB.out))); (case aF => exact (fun k_ hk => Kd.fresh' (Kd.R_lt (by (with_reducible repeat (first | apply Kd.R_alloc | apply Kd.R_drewN | apply Kd.R_drew)); exact HO442.out)) k_ hk)); (case aO => exact (by (with_reducible repeat (first | apply Kd.R_alloc | apply Kd.R_drewN | apply Kd.R_drew)); exact Kd.R_mono HO439.out (fun _ hk => hk.2))); (case aS => exact (below_size (by repeat (first | (with_reducible first | exact HB.out | apply below_alloc | apply pw_below_drewN | apply below_drew1) | exact HB.out)))); (case aL => have := LMc7.out; omega); intro v444 w82 ho hb hg hat; rw [← Ny443.out] at ho; have n0_ := Aside0.mk (Kd.R_after (ok := (fun _ => True)) (by (with_reducible repeat (first | apply Kd.R_alloc | apply Kd.R_drewN | apply Kd.R_drew)); exact HO442.out) hg hat); have n1_ := Aside0.mk (hb); have n2_ := Aside0.mk (ho); clear HO442; clear HB; clear HO439; have HO442 := n0_; have HB := n1_; have HO445 := n2_; clear n0_ n1_ n2_; clear ho hb hg hat; obtain ⟨Ao85, co85, eo85⟩ := Kd.R_slice HO445.out; subst eo85; have q84 : ((l0.length : Int) : Int) ≤ ((y443.length : Int) : Int) := of_decide_eq_true (by first | (with_reducible assumption) | assumption); obtain ⟨i084, hi084, _, hsz84, _⟩ := info_parts info5; have hroom84 : y443.length ≤ co85 := (Kd.R_reads' HO445.out).2.1; have hC84 : Kd.C (Kd.int .u8) _ Ao85 y443.length y443 := (Kd.R_reads' HO445.out).2.2; have hcut84 := cut_to (P := Tryd.prog) 29 5 .i64 Tryd.underlying29 hi084 Ao85 y443.length co85 (l0.length : Int) (of_decide_eq_true (by first | (with_reducible assumption) | assumption)) q84 hroom84; have hr84 := Kd.C_take (m := ((l0.length : Int) : Int).toNat) hC84 (by omega); have hy84 : y446.length = ((l0.length : Int) : Int).toNat := (by rw [Ny446.out, List.length_take]; omega); rw [← Ny446.out] at hr84; rw [← hy84] at hcut84; have HR449 := Aside0.mk hr84; have HC449 := Aside0.mk (show y446.length ≤ co85 from by omega); clear hr84 hC84 hroom84 hi084 hsz84; have KY84 := Aside0.mk hy84; clear hy84; have KL84 := Aside0.mk (show ((l0.length : Int) : Int).toNat ≤ y443.length from by omega); replace q84 := eq_true q84) | ((with_reducible refine gate_callee (f := 17) rfl ?_); refine goesL_ (some 32) rfl rfl Tryd.func17 (by kernel_rfl) rfl #[.slice Ao85 y446.length co85] rfl (by (try simp only [List.map_toArray, List.map_cons, List.map_nil]); first | done | rfl | (simp only [List.length_drop, List.length_take]; rfl)) ?_; (with_reducible refine (words_All.calls k _ _ y446 t450 _ ?side1 ?side2 ?side3 A10.out).mono ?_); (case side1 => repeat (first | exact (by repeat (first | (with_reducible exact HR449.out) | (with_reducible refine Kd.C_alloc ?_ _) | (with_reducible refine Kd.C_drewN ?_ _) | (with_reducible refine Kd.C_drew ?_) | exact HR449.out)) | (with_reducible refine Kd.C_alloc ?_ _) | (with_reducible refine Kd.C_drewN ?_ _) | (with_reducible refine Kd.C_drew ?_))); (case side2 => exact HC449.out); (case side3 => exact laid_below HLB.out (by repeat (first | (with_reducible first | exact HB.out | apply below_alloc | apply pw_below_drewN | apply below_drew1) | exact HB.out))); rintro e w86 ⟨v451, rfl, ho0, hb⟩; refine ⟨_, rfl, ?_⟩; have n0_ := Aside0.mk (Kd.R_below (by (with_reducible repeat (first | apply Kd.R_alloc | apply Kd.R_drewN | apply Kd.R_drew)); exact HO442.out) hb); have n1_ := Aside0.mk (Kd.R_below (by (with_reducible repeat (first | apply Kd.R_alloc | apply Kd.R_drewN | apply Kd.R_drew)); exact HO445.out) hb); have n2_ := Aside0.mk (Kd.R_lower ho0 (below_size (by repeat (first | (with_reducible first | exact HB.out | apply below_alloc | apply pw_below_drewN | apply below_drew1) | exact HB.out)))); have n3_ := Aside0.mk (Kd.C_below (by repeat (first | (with_reducible exact HR449.out) | (with_reducible refine Kd.C_alloc ?_ _) | (with_reducible refine Kd.C_drewN ?_ _) | (with_reducible refine Kd.C_drew ?_) | exact HR449.out)) hb); have n4_ := Aside0.mk (below_step (by repeat (first | (with_reducible first | exact HB.out | apply below_alloc | apply pw_below_drewN | apply below_drew1) | exact HB.out)) hb); clear HO442; clear HO445; clear HR449; clear HB; have HO442 := n0_; have HO445 := n1_; have HO452 := n2_; have HR449 := n3_; have HB := n4_; clear n0_ n1_ n2_ n3_ n4_; (try clear hb); (try clear hb2); (try clear hk); (try clear hi); (try clear ho0)) | ((with_reducible refine gate_callee (f := 17) rfl ?_); refine goesL_ (some 34) rfl rfl Tryd.func17 (by kernel_rfl) rfl #[.slice Ao85 y446.length co85] rfl (by (try simp only [List.map_toArray, List.map_cons, List.map_nil]); first | done | rfl | (simp only [List.length_drop, List.length_take]; rfl)) ?_; (with_reducible refine (words_All.calls k _ _ y446 t453 _ ?side1 ?side2 ?side3 A11.out).mono ?_); (case side1 => repeat (first | exact (by repeat (first | (with_reducible exact HR449.out) | (with_reducible refine Kd.C_alloc ?_ _) | (with_reducible refine Kd.C_drewN ?_ _) | (with_reducible refine Kd.C_drew ?_) | exact HR449.out)) | (with_reducible refine Kd.C_alloc ?_ _) | (with_reducible refine Kd.C_drewN ?_ _) | (with_reducible refine Kd.C_drew ?_))); (case side2 => exact HC449.out); (case side3 => exact laid_below HLB.out (by repeat (first | (with_reducible first | exact HB.out | apply below_alloc | apply pw_below_drewN | apply below_drew1) | exact HB.out))); rintro e w87 ⟨v454, rfl, ho0, hb⟩; refine ⟨_, rfl, ?_⟩; have n0_ := Aside0.mk (Kd.R_below (by (with_reducible repeat (first | apply Kd.R_alloc | apply Kd.R_drewN | apply Kd.R_drew)); exact HO442.out) hb); have n1_ := Aside0.mk (Kd.R_below (by (with_reducible repeat (first | apply Kd.R_alloc | apply Kd.R_drewN | apply Kd.R_drew)); exact HO445.out) hb); have n2_ := Aside0.mk (Kd.R_elder' (by (with_reducible repeat (first | apply Kd.R_alloc | apply Kd.R_drewN | apply Kd.R_drew)); exact HO452.out) (Kd.R_base ho0) hb); have n3_ := Aside0.mk (Kd.R_lower (Kd.R_new' ho0 (Kd.R_lt (by (with_reducible repeat (first | apply Kd.R_alloc | apply Kd.R_drewN | apply Kd.R_drew)); exact HO452.out))) (below_size (by repeat (first | (with_reducible first | exact HB.out | apply below_alloc | apply pw_below_drewN | apply below_drew1) | exact HB.out)))); have n4_ := Aside0.mk (Kd.C_below (by repeat (first | (with_reducible exact HR449.out) | (with_reducible refine Kd.C_alloc ?_ _) | (with_reducible refine Kd.C_drewN ?_ _) | (with_reducible refine Kd.C_drew ?_) | exact HR449.out)) hb); have n5_ := Aside0.mk (below_step (by repeat (first | (with_reducible first | exact HB.out | apply below_alloc | apply pw_below_drewN | apply below_drew1) | exact HB.out)) hb); clear HO442; clear HO445; clear HO452; clear HR449; clear HB; have HO442 := n0_; have HO445 := n1_; have HO452 := n2_; have HO455 := n3_; have HR449 := n4_; have HB := n5_; clear n0_ n1_ n2_ n3_ n4_ n5_; (try clear hb); (try clear hb2); (try clear hk); (try clear hi); (try clear ho0)) | ((with_reducible refine gate_callee (f := 36) rfl ?_); refine goesL_ (some 38) rfl rfl Tryd.func36 (by kernel_rfl) rfl #[.slice Ao85 y446.length co85, .int .i64 a2] rfl (by (try simp only [List.map_toArray, List.map_cons, List.map_nil]); first | done | rfl | (simp only [List.length_drop, List.length_take]; rfl)) ?_; (with_reducible refine (words_Wrap.calls k _ _ y446 a2 t456 t457 _ ?side1 ?side2 ?side3 A12.out).mono ?_); (case side1 => repeat (first | exact (by repeat (first | (with_reducible exact HR449.out) | (with_reducible refine Kd.C_alloc ?_ _) | (with_reducible refine Kd.C_drewN ?_ _) | (with_reducible refine Kd.C_drew ?_) | exact HR449.out)) | (with_reducible refine Kd.C_alloc ?_ _) | (with_reducible refine Kd.C_drewN ?_ _) | (with_reducible refine Kd.C_drew ?_))); (case side2 => exact HC449.out); (case side3 => exact laid_below HLB.out (by repeat (first | (with_reducible first | exact HB.out | apply below_alloc | apply pw_below_drewN | apply below_drew1) | exact HB.out))); rintro e w88 ⟨v458, rfl, ho0, hb⟩; refine ⟨_, rfl, ?_⟩; have n0_ := Aside0.mk (Kd.R_below (by (with_reducible repeat (first | apply Kd.R_alloc | apply Kd.R_drewN | apply Kd.R_drew)); exact HO442.out) hb); have n1_ := Aside0.mk (Kd.R_below (by (with_reducible repeat (first | apply Kd.R_alloc | apply Kd.R_drewN | apply Kd.R_drew)); exact HO445.out) hb); have n2_ := Aside0.mk (Kd.R_below (by (with_reducible repeat (first | apply Kd.R_alloc | apply Kd.R_drewN | apply Kd.R_drew)); exact HO452.out) hb); have n3_ := Aside0.mk (Kd.R_below (by (with_reducible repeat (first | apply Kd.R_alloc | apply Kd.R_drewN | apply Kd.R_drew)); exact HO455.out) hb); have n4_ := Aside0.mk (Kd.R_lower ho0 (below_size (by repeat (first | (with_reducible first | exact HB.out | apply below_alloc | apply pw_below_drewN | apply below_drew1) | exact HB.out)))); have n5_ := Aside0.mk (Kd.C_below (by repeat (first | (with_reducible exact HR449.out) | (with_reducible refine Kd.C_alloc ?_ _) | (with_reducible refine Kd.C_drewN ?_ _) | (with_reducible refine Kd.C_drew ?_) | exact HR449.out)) hb); have n6_ := Aside0.mk (below_step (by repeat (first | (with_reducible first | exact HB.out | apply below_alloc | apply pw_below_drewN | apply below_drew1) | exact HB.out)) hb); clear HO442; clear HO445; clear HO452; clear HO455; clear HR449; clear HB; have HO442 := n0_; have HO445 := n1_; have HO452 := n2_; have HO455 := n3_; have HO459 := n4_; have HR449 := n5_; have HB := n6_; clear n0_ n1_ n2_ n3_ n4_ n5_ n6_; (try clear hb); (try clear hb2); (try clear hk); (try clear hi); (try clear ho0)) | ((with_reducible refine gate_callee (f := 36) rfl ?_); refine goesL_ (some 44) rfl rfl Tryd.func36 (by kernel_rfl) rfl #[.slice Ao85 y446.length co85, .int .i64 a2] rfl (by (try simp only [List.map_toArray, List.map_cons, List.map_nil]); first | done | rfl | (simp only [List.length_drop, List.length_take]; rfl)) ?_; (with_reducible refine (words_Wrap.calls k _ _ y446 a2 t460 t461 _ ?side1 ?side2 ?side3 A13.out).mono ?_); (case side1 => repeat (first | exact (by repeat (first | (with_reducible exact HR449.out) | (with_reducible refine Kd.C_alloc ?_ _) | (with_reducible refine Kd.C_drewN ?_ _) | (with_reducible refine Kd.C_drew ?_) | exact HR449.out)) | (with_reducible refine Kd.C_alloc ?_ _) | (with_reducible refine Kd.C_drewN ?_ _) | (with_reducible refine Kd.C_drew ?_))); (case side2 => exact HC449.out); (case side3 => exact laid_below HLB.out (by repeat (first | (with_reducible first | exact HB.out | apply below_alloc | apply pw_below_drewN | apply below_drew1) | exact HB.out))); rintro e w89 ⟨v462, rfl, ho0, hb⟩; refine ⟨_, rfl, ?_⟩; have n0_ := Aside0.mk (Kd.R_below (by (with_reducible repeat (first | apply Kd.R_alloc | apply Kd.R_drewN | apply Kd.R_drew)); exact HO442.out) hb); have n1_ := Aside0.mk (Kd.R_below (by (with_reducible repeat (first | apply Kd.R_alloc | apply Kd.R_drewN | apply Kd.R_drew)); exact HO445.out) hb); have n2_ := Aside0.mk (Kd.R_below (by (with_reducible repeat (first | apply Kd.R_alloc | apply Kd.R_drewN | apply Kd.R_drew)); exact HO452.out) hb); have n3_ := Aside0.mk (Kd.R_below (by (with_reducible repeat (first | apply Kd.R_alloc | apply Kd.R_drewN | apply Kd.R_drew)); exact HO455.out) hb); have n4_ := Aside0.mk (Kd.R_elder' (by (with_reducible repeat (first | apply Kd.R_alloc | apply Kd.R_drewN | apply Kd.R_drew)); exact HO459.out) (Kd.R_base ho0) hb); have n5_ := Aside0.mk (Kd.R_lower (Kd.R_new' ho0 (Kd.R_lt (by (with_reducible repeat (first | apply Kd.R_alloc | apply Kd.R_drewN | apply Kd.R_drew)); exact HO459.out))) (below_size (by repeat (first | (with_reducible first | exact HB.out | apply below_alloc | apply pw_below_drewN | apply below_drew1) | exact HB.out)))); have n6_ := Aside0.mk (Kd.C_below (by repeat (first | (with_reducible exact HR449.out) | (with_reducible refine Kd.C_alloc ?_ _) | (with_reducible refine Kd.C_drewN ?_ _) | (with_reducible refine Kd.C_drew ?_) | exact HR449.out)) hb); have n7_ := Aside0.mk (below_step (by repeat (first | (with_reducible first | exact HB.out | apply below_alloc | apply pw_below_drewN | apply below_drew1) | exact HB.out)) hb); clear HO442; clear HO445; clear HO452; clear HO455; clear HO459; clear HR449; clear HB; have HO442 := n0_; have HO445 := n1_; have HO452 := n2_; have HO455 := n3_; have HO459 := n4_; have HO463 := n5_; have HR449 := n6_; have HB := n7_; clear n0_ n1_ n2_ n3_ n4_ n5_ n6_ n7_; (try clear hb); (try clear hb2); (try clear hk); (try clear hi); (try clear ho0)) | ((with_reducible refine gate_callee (f := 20) rfl ?_); refine goesL_ (some 49) rfl rfl Tryd.func20 (by kernel_rfl) rfl #[.slice Ao85 y446.length co85, .int .i64 a1] rfl (by (try simp only [List.map_toArray, List.map_cons, List.map_nil]); first | done | rfl | (simp only [List.length_drop, List.length_take]; rfl)) ?_; (with_reducible refine (words_Around.calls k _ _ y446 a1 t464 t465 t466 t467 _ ?side1 ?side2 ?side3 A14.out).mono ?_); (case side1 => repeat (first | exact (by repeat (first | (with_reducible exact HR449.out) | (with_reducible refine Kd.C_alloc ?_ _) | (with_reducible refine Kd.C_drewN ?_ _) | (with_reducible refine Kd.C_drew ?_) | exact HR449.out)) | (with_reducible refine Kd.C_alloc ?_ _) | (with_reducible refine Kd.C_drewN ?_ _) | (with_reducible refine Kd.C_drew ?_))); (case side2 => exact HC449.out); (case side3 => exact laid_below HLB.out (by repeat (first | (with_reducible first | exact HB.out | apply below_alloc | apply pw_below_drewN | apply below_drew1) | exact HB.out))); rintro e w90 ⟨rfl, hb⟩; refine ⟨_, rfl, ?_⟩; have n0_ := Aside0.mk (Kd.R_below (by (with_reducible repeat (first | apply Kd.R_alloc | apply Kd.R_drewN | apply Kd.R_drew)); exact HO442.out) hb); have n1_ := Aside0.mk (Kd.R_below (by (with_reducible repeat (first | apply Kd.R_alloc | apply Kd.R_drewN | apply Kd.R_drew)); exact HO445.out) hb); have n2_ := Aside0.mk (Kd.R_below (by (with_reducible repeat (first | apply Kd.R_alloc | apply Kd.R_drewN | apply Kd.R_drew)); exact HO452.out) hb); have n3_ := Aside0.mk (Kd.R_below (by (with_reducible repeat (first | apply Kd.R_alloc | apply Kd.R_drewN | apply Kd.R_drew)); exact HO455.out) hb); have n4_ := Aside0.mk (Kd.R_below (by (with_reducible repeat (first | apply Kd.R_alloc | apply Kd.R_drewN | apply Kd.R_drew)); exact HO459.out) hb); have n5_ := Aside0.mk (Kd.R_below (by (with_reducible repeat (first | apply Kd.R_alloc | apply Kd.R_drewN | apply Kd.R_drew)); exact HO463.out) hb); have n6_ := Aside0.mk (Kd.C_below (by repeat (first | (with_reducible exact HR449.out) | (with_reducible refine Kd.C_alloc ?_ _) | (with_reducible refine Kd.C_drewN ?_ _) | (with_reducible refine Kd.C_drew ?_) | exact HR449.out)) hb); have n7_ := Aside0.mk (below_step (by repeat (first | (with_reducible first | exact HB.out | apply below_alloc | apply pw_below_drewN | apply below_drew1) | exact HB.out)) hb); clear HO442; clear HO445; clear HO452; clear HO455; clear HO459; clear HO463; clear HR449; clear HB; have HO442 := n0_; have HO445 := n1_; have HO452 := n2_; have HO455 := n3_; have HO459 := n4_; have HO463 := n5_; have HR449 := n6_; have HB := n7_; clear n0_ n1_ n2_ n3_ n4_ n5_ n6_ n7_; (try clear hb); (try clear hb2); (try clear hk); (try clear hi)) | ((with_reducible refine gate_callee (f := 22) rfl ?_); refine goesL_ (some 52) rfl rfl Tryd.func22 (by kernel_rfl) rfl #[.slice Ao85 y446.length co85, .int .i64 a1] rfl (by (try simp only [List.map_toArray, List.map_cons, List.map_nil]); first | done | rfl | (simp only [List.length_drop, List.length_take]; rfl)) ?_; (with_reducible refine (words_Next.calls k _ _ y446 a1 t468 t469 _ ?side1 ?side2 ?side3 A15.out).mono ?_); (case side1 => repeat (first | exact (by repeat (first | (with_reducible exact HR449.out) | (with_reducible refine Kd.C_alloc ?_ _) | (with_reducible refine Kd.C_drewN ?_ _) | (with_reducible refine Kd.C_drew ?_) | exact HR449.out)) | (with_reducible refine Kd.C_alloc ?_ _) | (with_reducible refine Kd.C_drewN ?_ _) | (with_reducible refine Kd.C_drew ?_))); (case side2 => exact HC449.out); (case side3 => exact laid_below HLB.out (by repeat (first | (with_reducible first | exact HB.out | apply below_alloc | apply pw_below_drewN | apply below_drew1) | exact HB.out))); rintro e w91 ⟨rfl, hb⟩; refine ⟨_, rfl, ?_⟩; have n0_ := Aside0.mk (Kd.R_below (by (with_reducible repeat (first | apply Kd.R_alloc | apply Kd.R_drewN | apply Kd.R_drew)); exact HO442.out) hb); have n1_ := Aside0.mk (Kd.R_below (by (with_reducible repeat (first | apply Kd.R_alloc | apply Kd.R_drewN | apply Kd.R_drew)); exact HO445.out) hb); have n2_ := Aside0.mk (Kd.R_below (by (with_reducible repeat (first | apply Kd.R_alloc | apply Kd.R_drewN | apply Kd.R_drew)); exact HO452.out) hb); have n3_ := Aside0.mk (Kd.R_below (by (with_reducible repeat (first | apply Kd.R_alloc | apply Kd.R_drewN | apply Kd.R_drew)); exact HO455.out) hb); have n4_ := Aside0.mk (Kd.R_below (by (with_reducible repeat (first | apply Kd.R_alloc | apply Kd.R_drewN | apply Kd.R_drew)); exact HO459.out) hb); have n5_ := Aside0.mk (Kd.R_below (by (with_reducible repeat (first | apply Kd.R_alloc | apply Kd.R_drewN | apply Kd.R_drew)); exact HO463.out) hb); have n6_ := Aside0.mk (Kd.C_below (by repeat (first | (with_reducible exact HR449.out) | (with_reducible refine Kd.C_alloc ?_ _) | (with_reducible refine Kd.C_drewN ?_ _) | (with_reducible refine Kd.C_drew ?_) | exact HR449.out)) hb); have n7_ := Aside0.mk (below_step (by repeat (first | (with_reducible first | exact HB.out | apply below_alloc | apply pw_below_drewN | apply below_drew1) | exact HB.out)) hb); clear HO442; clear HO445; clear HO452; clear HO455; clear HO459; clear HO463; clear HR449; clear HB; have HO442 := n0_; have HO445 := n1_; have HO452 := n2_; have HO455 := n3_; have HO459 := n4_; have HO463 := n5_; have HR449 := n6_; have HB := n7_; clear n0_ n1_ n2_ n3_ n4_ n5_ n6_ n7_; (try clear hb); (try clear hb2); (try clear hk); (try clear hi)) | ((with_reducible refine gate_callee (f := 24) rfl ?_); refine goesL_ (some 55) rfl rfl Tryd.func24 (by kernel_rfl) rfl #[.slice Ao85 y446.length co85, .int .i64 a1] rfl (by (try simp only [List.map_toArray, List.map_cons, List.map_nil]); first | done | rfl | (simp only [List.length_drop, List.length_take]; rfl)) ?_; (with_reducible refine (words_Prev.calls k _ _ y446 a1 t470 t471 _ ?side1 ?side2 ?side3 A16.out).mono ?_); (case side1 => repeat (first | exact (by repeat (first | (with_reducible exact HR449.out) | (with_reducible refine Kd.C_alloc ?_ _) | (with_reducible refine Kd.C_drewN ?_ _) | (with_reducible refine Kd.C_drew ?_) | exact HR449.out)) | (with_reducible refine Kd.C_alloc ?_ _) | (with_reducible refine Kd.C_drewN ?_ _) | (with_reducible refine Kd.C_drew ?_))); (case side2 => exact HC449.out); (case side3 => exact laid_below HLB.out (by repeat (first | (with_reducible first | exact HB.out | apply below_alloc | apply pw_below_drewN | apply below_drew1) | exact HB.out))); rintro e w92 ⟨rfl, hb⟩; refine ⟨_, rfl, ?_⟩; have n0_ := Aside0.mk (Kd.R_below (by (with_reducible repeat (first | apply Kd.R_alloc | apply Kd.R_drewN | apply Kd.R_drew)); exact HO442.out) hb); have n1_ := Aside0.mk (Kd.R_below (by (with_reducible repeat (first | apply Kd.R_alloc | apply Kd.R_drewN | apply Kd.R_drew)); exact HO445.out) hb); have n2_ := Aside0.mk (Kd.R_below (by (with_reducible repeat (first | apply Kd.R_alloc | apply Kd.R_drewN | apply Kd.R_drew)); exact HO452.out) hb); have n3_ := Aside0.mk (Kd.R_below (by (with_reducible repeat (first | apply Kd.R_alloc | apply Kd.R_drewN | apply Kd.R_drew)); exact HO455.out) hb); have n4_ := Aside0.mk (Kd.R_below (by (with_reducible repeat (first | apply Kd.R_alloc | apply Kd.R_drewN | apply Kd.R_drew)); exact HO459.out) hb); have n5_ := Aside0.mk (Kd.R_below (by (with_reducible repeat (first | apply Kd.R_alloc | apply Kd.R_drewN | apply Kd.R_drew)); exact HO463.out) hb); have n6_ := Aside0.mk (Kd.C_below (by repeat (first | (with_reducible exact HR449.out) | (with_reducible refine Kd.C_alloc ?_ _) | (with_reducible refine Kd.C_drewN ?_ _) | (with_reducible refine Kd.C_drew ?_) | exact HR449.out)) hb); have n7_ := Aside0.mk (below_step (by repeat (first | (with_reducible first | exact HB.out | apply below_alloc | apply pw_below_drewN | apply below_drew1) | exact HB.out)) hb); clear HO442; clear HO445; clear HO452; clear HO455; clear HO459; clear HO463; clear HR449; clear HB; have HO442 := n0_; have HO445 := n1_; have HO452 := n2_; have HO455 := n3_; have HO459 := n4_; have HO463 := n5_; have HR449 := n6_; have HB := n7_; clear n0_ n1_ n2_ n3_ n4_ n5_ n6_ n7_; (try clear hb); (try clear hb2); (try clear hk); (try clear hi)) | ((with_reducible refine gate_callee (f := 26) rfl ?_); refine goesL_ (some 59) rfl rfl Tryd.func26 (by kernel_rfl) rfl #[.slice Ao85 y446.length co85, .int .i64 a1, .int .i64 a2] rfl (by (try simp only [List.map_toArray, List.map_cons, List.map_nil]); first | done | rfl | (simp only [List.length_drop, List.length_take]; rfl)) ?_; (with_reducible refine (words_Column.calls _ _ y446 a1 a2 t472 t473 _ ?side1 ?side2 ?side3 A17.out).mono ?_); (case side1 => repeat (first | exact (by repeat (first | (with_reducible exact HR449.out) | (with_reducible refine Kd.C_alloc ?_ _) | (with_reducible refine Kd.C_drewN ?_ _) | (with_reducible refine Kd.C_drew ?_) | exact HR449.out)) | (with_reducible refine Kd.C_alloc ?_ _) | (with_reducible refine Kd.C_drewN ?_ _) | (with_reducible refine Kd.C_drew ?_))); (case side2 => exact HC449.out); (case side3 => exact laid_below HLB.out (by repeat (first | (with_reducible first | exact HB.out | apply below_alloc | apply pw_below_drewN | apply below_drew1) | exact HB.out))); rintro e w93 ⟨rfl, hb⟩; refine ⟨_, rfl, ?_⟩; have n0_ := Aside0.mk (Kd.R_below (by (with_reducible repeat (first | apply Kd.R_alloc | apply Kd.R_drewN | apply Kd.R_drew)); exact HO442.out) hb); have n1_ := Aside0.mk (Kd.R_below (by (with_reducible repeat (first | apply Kd.R_alloc | apply Kd.R_drewN | apply Kd.R_drew)); exact HO445.out) hb); have n2_ := Aside0.mk (Kd.R_below (by (with_reducible repeat (first | apply Kd.R_alloc | apply Kd.R_drewN | apply Kd.R_drew)); exact HO452.out) hb); have n3_ := Aside0.mk (Kd.R_below (by (with_reducible repeat (first | apply Kd.R_alloc | apply Kd.R_drewN | apply Kd.R_drew)); exact HO455.out) hb); have n4_ := Aside0.mk (Kd.R_below (by (with_reducible repeat (first | apply Kd.R_alloc | apply Kd.R_drewN | apply Kd.R_drew)); exact HO459.out) hb); have n5_ := Aside0.mk (Kd.R_below (by (with_reducible repeat (first | apply Kd.R_alloc | apply Kd.R_drewN | apply Kd.R_drew)); exact HO463.out) hb); have n6_ := Aside0.mk (Kd.C_below (by repeat (first | (with_reducible exact HR449.out) | (with_reducible refine Kd.C_alloc ?_ _) | (with_reducible refine Kd.C_drewN ?_ _) | (with_reducible refine Kd.C_drew ?_) | exact HR449.out)) hb); have n7_ := Aside0.mk (below_step (by repeat (first | (with_reducible first | exact HB.out | apply below_alloc | apply pw_below_drewN | apply below_drew1) | exact HB.out)) hb); clear HO442; clear HO445; clear HO452; clear HO455; clear HO459; clear HO463; clear HR449; clear HB; have HO442 := n0_; have HO445 := n1_; have HO452 := n2_; have HO455 := n3_; have HO459 := n4_; have HO463 := n5_; have HR449 := n6_; have HB := n7_; clear n0_ n1_ n2_ n3_ n4_ n5_ n6_ n7_; (try clear hb); (try clear hb2); (try clear hk); (try clear hi); have hcv94 := own_string (P := Tryd.prog) Tryd.underlying29 Tryd.underlying5 Tryd.underlying9 (Kd.own_of_R HO445.out); have hcv95 := Kd.C_string (P := Tryd.prog) (A := A0) (c := c0) Tryd.underlying29 Tryd.underlying5 Tryd.underlying9 (Kd.C_below HR0.out HB.out)))
       go_ret
       exact ⟨by first | rfl | (simp [errW_none, errW_some] <;> rfl) | (simp [*, errW_none, errW_some] <;> rfl), by repeat (first | (with_reducible first | exact HB.out | apply below_alloc | apply pw_below_drewN | apply below_drew1) | exact HB.out)⟩
     ·rw [if_neg c18] at H
      exact absurd H (by simp)
    ·rw [if_neg c9] at H
     exact absurd H (by simp)
   ·rw [if_neg c8] at H
    exact absurd H (by simp)
  ·rw [if_neg c7] at H
   exact absurd H (by simp)
 ·replace c5 := Bool.eq_false_iff.mpr c5
  subst c5
  have H1 : (some false) = some r := by rw [if_neg (show ¬ (false = true) by decide)] at H; exact H
  clear H
  have H := H1
  clear H1
  obtain rfl := Option.some.inj H
  go_enter Tryd.func11, Tryd.ntmps11
  go_wp2_with (first | ((with_reducible refine gate_callee (f := 13) rfl ?_); refine goesL_ (some 21) rfl rfl Tryd.func13 (by kernel_rfl) rfl #[] rfl (by (try simp only [List.map_toArray, List.map_cons, List.map_nil]); first | done | rfl | (simp only [List.length_drop, List.length_take]; rfl)) ?_; (with_reducible refine (galleylaw22_wakes.calls  false _ ?side1 A4.out).mono ?_); (case side1 => exact laid_below HLB.out (by repeat (first | (with_reducible first | exact HB.out | apply below_alloc | apply pw_below_drewN | apply below_drew1) | exact HB.out))); rintro e w96 ⟨rfl, hb⟩; refine ⟨_, rfl, ?_⟩; have n0_ := Aside0.mk (below_step (by repeat (first | (with_reducible first | exact HB.out | apply below_alloc | apply pw_below_drewN | apply below_drew1) | exact HB.out)) hb); clear HB; have HB := n0_; clear n0_; (try clear hb); (try clear hb2); (try clear hk); (try clear hi)))
  go_ret
  exact ⟨by first | rfl | (simp [errW_none, errW_some] <;> rfl) | (simp [*, errW_none, errW_some] <;> rfl), by repeat (first | (with_reducible first | exact HB.out | apply below_alloc | apply pw_below_drewN | apply below_drew1) | exact HB.out)⟩

end Go.Proofs.YtijbkiajhicooaaDoor.PW

