-- Written by merge.py, a program of this session's: PWx6 PureDecode PureEdges PureSteps PureRunsT PureSlice PureFloor PureSame PureRuns22 PureWAll PureWordsAll PureWordsGo PureWordsAround PureWordsKinds PureWordsRuns
import Derived.Test.YtijbkiajhicooabDoorWordsRunsM1
import Derived.Lib.Bytes
import Derived.Test.YtijbkiajhicooabDoorWordsRunsM2
import Derived.Test.YtijbkiajhicooabDoorWordsRunsM3
import Derived.Test.YtijbkiajhicooabDoorWordsRunsM4
namespace Go.Proofs.YtijbkiajhicooabDoor.PW
open Go.RowKit Go.Proofs.YtijbkiajhicooabDoorW.PrintWords Go.Proofs.YtijbkiajhicooabDoorW.PrintLast Go.Proofs.YtijbkiajhicooabDoorW.PrintMore
attribute [local go_sem] max2_int min2_int max_two min_two max_three min_three max_four min_four   -- for this text's walks alone
set_option linter.unusedVariables false
set_option linter.unusedSimpArgs false

def inB (a lo hi : Int) : Bool := decide (lo ≤ a) && decide (a ≤ hi)
def atI (l : List Int) (p : Int) : Int := if p < 0 ∨ p ≥ (l.length : Int) then -1 else wrap64 (rd l p)
def three (x y : Int) : Bool := (x == 224 && inB y 160 191) || (inB x 225 236 && inB y 128 191) || (x == 237 && inB y 128 159) || (inB x 238 239 && inB y 128 191)
def four (x y : Int) : Bool := (x == 240 && inB y 144 191) || (inB x 241 243 && inB y 128 191) || (x == 244 && inB y 128 143)
def longOf (x y z w : Int) : Int :=
 if inB x 0 127 then 1 else if inB x 194 223 && inB y 128 191 then 2 else if inB z 128 191 && three x y then 3 else if inB z 128 191 && inB w 128 191 && four x y then 4 else 0
def longAt (l : List Int) (p : Int) : Int := longOf (atI l p) (atI l (wrap64 (p + 1))) (atI l (wrap64 (p + 2))) (atI l (wrap64 (p + 3)))
end Go.Proofs.YtijbkiajhicooabDoor.PW

namespace Go.Proofs.YtijbkiajhicooabDoor.PW
open Go.RowKit Go.Proofs.YtijbkiajhicooabDoorW.PrintWords Go.Proofs.YtijbkiajhicooabDoorW.PrintLast Go.Proofs.YtijbkiajhicooabDoorW.PrintMore
attribute [local go_sem] max2_int min2_int max_two min_two max_three min_three max_four min_four   -- for this text's walks alone
set_option linter.unusedVariables false
set_option linter.unusedSimpArgs false

def Bytes (l : List Int) : Prop := ∀ x ∈ l, 0 ≤ x ∧ x ≤ 255
theorem bytes_of_wf {l : List Int} (h : ∀ x ∈ l, (Lit.int .u8 x).wf = true) : Bytes l := fun x hx => by
 have := h x hx
 simp [Lit.wf] at this
 exact ⟨this.1, this.2⟩
theorem Bytes.drop {l : List Int} (h : Bytes l) (n : Nat) : Bytes (l.drop n) := fun x hx => h x (List.mem_of_mem_drop hx)
theorem rd_byte {l : List Int} (h : Bytes l) (p : Int) : 0 ≤ rd l p ∧ rd l p ≤ 255 := by
 unfold rd
 rw [List.getD_eq_getElem?_getD]
 cases hg : l[p.toNat]? with
 | none => exact ⟨Int.le_refl _, by decide⟩
 | some x => exact h x (List.mem_of_getElem? hg)
theorem wrap64_small {n : Int} (h0 : -9223372036854775808 ≤ n) (h1 : n ≤ 9223372036854775807) : wrap64 n = n := by unfold wrap64; omega
theorem atI_in {l : List Int} (hb : Bytes l) (p : Nat) (h : p < l.length) : atI l (p : Int) = l.getD p 0 ∧ 0 ≤ l.getD p 0 ∧ l.getD p 0 ≤ 255 := by
 have h1 := rd_byte hb (p : Int)
 have e : rd l (p : Int) = l.getD p 0 := by unfold rd; simp
 rw [e] at h1
 unfold atI
 rw [if_neg (by omega), e, wrap64_small (by omega) (by omega)]
 exact ⟨rfl, h1⟩
theorem atI_out (l : List Int) (p : Int) (h : p < 0 ∨ (l.length : Int) ≤ p) : atI l p = -1 := by
 unfold atI
 rw [if_pos (by omega)]
/-- The byte that decoding reads. -/
theorem getB {l : List Int} (hb : Bytes l) (p : Nat) (h : p < l.length) : (((strOfNums l).get! p).toNat : Int) = atI l (p : Int) := by
 obtain ⟨e, h0, h1⟩ := atI_in hb p h
 rw [e]
 have hg : l.getD p 0 = l[p] := by simp [List.getD, h]
 have : (strOfNums l).get! p = UInt8.ofNat (l[p]).toNat := by
  simp [ByteArray.get!, strOfNums, getElem!_def, h]
 rw [this, hg]
 rw [hg] at h0 h1
 simp
 omega
/-- Decoding, by the bytes at the place and behind it (-1: none). -/
def decV (x y z w : Int) : Int × Nat :=
 if x < 128 then (x, 1)
 else if x / 32 = 6 ∧ y / 64 = 2 then (if x % 32 * 64 + y % 64 ≥ 128 then (x % 32 * 64 + y % 64, 2) else (65533, 1))
 else if x / 16 = 14 ∧ y / 64 = 2 ∧ z / 64 = 2 then
  (if x % 16 * 4096 + y % 64 * 64 + z % 64 ≥ 2048 ∧ ¬ (55296 ≤ x % 16 * 4096 + y % 64 * 64 + z % 64 ∧ x % 16 * 4096 + y % 64 * 64 + z % 64 < 57344) then (x % 16 * 4096 + y % 64 * 64 + z % 64, 3) else (65533, 1))
 else if x / 8 = 30 ∧ y / 64 = 2 ∧ z / 64 = 2 ∧ w / 64 = 2 then
  (if x % 8 * 262144 + y % 64 * 4096 + z % 64 * 64 + w % 64 ≥ 65536 ∧ x % 8 * 262144 + y % 64 * 4096 + z % 64 * 64 + w % 64 ≤ 1114111 then (x % 8 * 262144 + y % 64 * 4096 + z % 64 * 64 + w % 64, 4) else (65533, 1))
 else (65533, 1)
theorem contB {l : List Int} (hb : Bytes l) (p : Nat) : (decide (p < (strOfNums l).size) && ((strOfNums l).get! p).toNat / 64 == 2) = decide (atI l (p : Int) / 64 = 2) := by
 rw [strOfNums_size]
 by_cases h : p < l.length
 ·have e := getB hb p h
  rw [decide_eq_true h, Bool.true_and, ← e]
  have : ((((strOfNums l).get! p).toNat : Int) / 64 = 2) ↔ (((strOfNums l).get! p).toNat / 64 = 2) := by omega
  rw [Bool.eq_iff_iff]
  simp only [beq_iff_eq, decide_eq_true_eq]
  exact this.symm
 ·rw [decide_eq_false h, Bool.false_and, atI_out l _ (by omega)]
  rfl
set_option maxRecDepth 100000 in
set_option maxHeartbeats 400000 in
theorem decode_int {l : List Int} (hb : Bytes l) (p : Nat) (h : p < l.length) :
  (((Utf8.decode (strOfNums l) p).1 : Int), (Utf8.decode (strOfNums l) p).2) = decV (atI l (p : Int)) (atI l (p + 1 : Nat)) (atI l (p + 2 : Nat)) (atI l (p + 3 : Nat)) := by
 have e0 := getB hb p h
 obtain ⟨_, x0, x1⟩ := atI_in hb p h
 rw [← (atI_in hb p h).1] at x0 x1
 have c1 := contB hb (p + 1)
 have c2 := contB hb (p + 2)
 have c3 := contB hb (p + 3)
 have ey : ∀ q, atI l (q : Nat) / 64 = 2 → (((strOfNums l).get! q).toNat : Int) = atI l (q : Nat) := fun q hq => by
  by_cases hl : q < l.length
  ·exact getB hb q hl
  ·rw [atI_out l _ (by omega)] at hq
   omega
 have e1 := ey (p + 1)
 have e2 := ey (p + 2)
 have e3 := ey (p + 3)
 unfold Utf8.decode decV
 simp only [Nat.add_zero]
 rw [c1, c2, c3]
 clear c1 c2 c3 ey
 obtain ⟨x, hx⟩ : ∃ x, atI l (p : Int) = x := ⟨_, rfl⟩
 obtain ⟨y, hy⟩ : ∃ x, atI l (p + 1 : Nat) = x := ⟨_, rfl⟩
 obtain ⟨z, hz⟩ : ∃ x, atI l (p + 2 : Nat) = x := ⟨_, rfl⟩
 obtain ⟨v, hv⟩ : ∃ x, atI l (p + 3 : Nat) = x := ⟨_, rfl⟩
 obtain ⟨b0, hb0⟩ : ∃ b, ((strOfNums l).get! p).toNat = b := ⟨_, rfl⟩
 obtain ⟨b1, hb1⟩ : ∃ b, ((strOfNums l).get! (p + 1)).toNat = b := ⟨_, rfl⟩
 obtain ⟨b2, hb2⟩ : ∃ b, ((strOfNums l).get! (p + 2)).toNat = b := ⟨_, rfl⟩
 obtain ⟨b3, hb3⟩ : ∃ b, ((strOfNums l).get! (p + 3)).toNat = b := ⟨_, rfl⟩
 rw [hx] at x0 x1 e0
 rw [hy] at e1
 rw [hz] at e2
 rw [hv] at e3
 rw [hb0] at e0
 rw [hb1] at e1
 rw [hb2] at e2
 rw [hb3] at e3
 simp only [hx, hy, hz, hv, hb0, hb1, hb2, hb3]
 clear hx hy hz hv hb0 hb1 hb2 hb3
 by_cases h0 : b0 < 128
 ·rw [if_pos h0, if_pos (by omega)]
  simp [e0]
 rw [if_neg h0, if_neg (show ¬ x < 128 by omega)]
 by_cases h1 : x / 32 = 6 ∧ y / 64 = 2
 ·have g1 := e1 h1.2
  rw [if_pos h1, if_pos (by simp; omega)]
  by_cases h2 : x % 32 * 64 + y % 64 ≥ 128
  ·rw [if_pos h2, if_pos (by omega)]
   simp
   omega
  ·rw [if_neg h2, if_neg (by omega)]
   simp [Utf8.runeError]
 rw [if_neg h1, if_neg (by simp; omega)]
 by_cases h3 : x / 16 = 14 ∧ y / 64 = 2 ∧ z / 64 = 2
 ·have g1 := e1 h3.2.1
  have g2 := e2 h3.2.2
  rw [if_pos h3, if_pos (by simp; omega)]
  by_cases h4 : x % 16 * 4096 + y % 64 * 64 + z % 64 ≥ 2048 ∧ ¬ (55296 ≤ x % 16 * 4096 + y % 64 * 64 + z % 64 ∧ x % 16 * 4096 + y % 64 * 64 + z % 64 < 57344)
  ·rw [if_pos h4, if_pos (by simp [Utf8.valid]; omega)]
   simp
   omega
  ·rw [if_neg h4, if_neg (by simp [Utf8.valid]; omega)]
   simp [Utf8.runeError]
 rw [if_neg h3, if_neg (by simp; omega)]
 by_cases h5 : x / 8 = 30 ∧ y / 64 = 2 ∧ z / 64 = 2 ∧ v / 64 = 2
 ·have g1 := e1 h5.2.1
  have g2 := e2 h5.2.2.1
  have g3 := e3 h5.2.2.2
  rw [if_pos h5, if_pos (by simp; omega)]
  by_cases h6 : x % 8 * 262144 + y % 64 * 4096 + z % 64 * 64 + v % 64 ≥ 65536 ∧ x % 8 * 262144 + y % 64 * 4096 + z % 64 * 64 + v % 64 ≤ 1114111
  ·rw [if_pos h6, if_pos (by simp [Utf8.valid]; omega)]
   simp
   omega
  ·rw [if_neg h6, if_neg (by simp [Utf8.valid]; omega)]
   simp [Utf8.runeError]
 rw [if_neg h5, if_neg (by simp; omega)]
 simp [Utf8.runeError]
def isOne (x : Int) : Prop := 0 ≤ x ∧ x ≤ 127
def isTwo (x y : Int) : Prop := 194 ≤ x ∧ x ≤ 223 ∧ 128 ≤ y ∧ y ≤ 191
def isThree (x y z : Int) : Prop := 128 ≤ z ∧ z ≤ 191 ∧ ((x = 224 ∧ 160 ≤ y ∧ y ≤ 191) ∨ (225 ≤ x ∧ x ≤ 236 ∧ 128 ≤ y ∧ y ≤ 191) ∨ (x = 237 ∧ 128 ≤ y ∧ y ≤ 159) ∨ (238 ≤ x ∧ x ≤ 239 ∧ 128 ≤ y ∧ y ≤ 191))
def isFour (x y z w : Int) : Prop := 128 ≤ z ∧ z ≤ 191 ∧ 128 ≤ w ∧ w ≤ 191 ∧ ((x = 240 ∧ 144 ≤ y ∧ y ≤ 191) ∨ (241 ≤ x ∧ x ≤ 243 ∧ 128 ≤ y ∧ y ≤ 191) ∨ (x = 244 ∧ 128 ≤ y ∧ y ≤ 143))
theorem longOf_cases (x y z w : Int) : (isOne x ∧ longOf x y z w = 1) ∨ (isTwo x y ∧ longOf x y z w = 2) ∨ (isThree x y z ∧ longOf x y z w = 3) ∨ (isFour x y z w ∧ longOf x y z w = 4) ∨
  (¬ isOne x ∧ ¬ isTwo x y ∧ ¬ isThree x y z ∧ ¬ isFour x y z w ∧ longOf x y z w = 0) := by
 have e1 : (inB x 0 127 = true) ↔ isOne x := by simp [inB, isOne]
 have e2 : (inB x 194 223 && inB y 128 191) = true ↔ isTwo x y := by simp [inB, isTwo]; omega
 have e3 : (inB z 128 191 && three x y) = true ↔ isThree x y z := by simp [inB, isThree, three]; omega
 have e4 : (inB z 128 191 && inB w 128 191 && four x y) = true ↔ isFour x y z w := by simp [inB, isFour, four]; omega
 unfold longOf
 by_cases h1 : isOne x
 ·exact .inl ⟨h1, by rw [if_pos (e1.2 h1)]⟩
 rw [if_neg (fun h => h1 (e1.1 h))]
 by_cases h2 : isTwo x y
 ·exact .inr (.inl ⟨h2, by rw [if_pos (e2.2 h2)]⟩)
 rw [if_neg (fun h => h2 (e2.1 h))]
 by_cases h3 : isThree x y z
 ·exact .inr (.inr (.inl ⟨h3, by rw [if_pos (e3.2 h3)]⟩))
 rw [if_neg (fun h => h3 (e3.1 h))]
 by_cases h4 : isFour x y z w
 ·exact .inr (.inr (.inr (.inl ⟨h4, by rw [if_pos (e4.2 h4)]⟩)))
 rw [if_neg (fun h => h4 (e4.1 h))]
 exact .inr (.inr (.inr (.inr ⟨h1, h2, h3, h4, rfl⟩)))
/-- The rune of an encoding. -/
def runeV (x y z w : Int) : Int := if longOf x y z w = 1 then x else if longOf x y z w = 2 then x % 32 * 64 + y % 64 else if longOf x y z w = 3 then x % 16 * 4096 + y % 64 * 64 + z % 64 else x % 8 * 262144 + y % 64 * 4096 + z % 64 * 64 + w % 64
theorem decV_long (x y z w : Int) (hx0 : 0 ≤ x) (hx1 : x ≤ 255) (hy : y ≤ 255) (hz : z ≤ 255) (hw : w ≤ 255) (hy0 : -1 ≤ y) (hz0 : -1 ≤ z) (hw0 : -1 ≤ w) :
  (longOf x y z w = 0 → decV x y z w = (65533, 1) ∧ ¬ (x = 239 ∧ y = 191 ∧ z = 189)) ∧
  (longOf x y z w ≠ 0 → decV x y z w = (runeV x y z w, (longOf x y z w).toNat) ∧ (runeV x y z w = 65533 ↔ (x = 239 ∧ y = 191 ∧ z = 189))) := by
 rcases longOf_cases x y z w with ⟨h, e⟩ | ⟨h, e⟩ | ⟨h, e⟩ | ⟨h, e⟩ | ⟨h1, h2, h3, h4, e⟩
 ·refine ⟨fun h0 => by omega, fun _ => ?_⟩
  unfold isOne at h
  have hr : runeV x y z w = x := by simp [runeV, e]
  rw [hr, e]
  unfold decV
  rw [if_pos (by omega)]
  exact ⟨rfl, by omega⟩
 ·refine ⟨fun h0 => by omega, fun _ => ?_⟩
  unfold isTwo at h
  have hr : runeV x y z w = x % 32 * 64 + y % 64 := by simp [runeV, e]
  rw [hr, e]
  unfold decV
  rw [if_neg (by omega), if_pos (by omega), if_pos (by omega)]
  exact ⟨rfl, by omega⟩
 ·refine ⟨fun h0 => by omega, fun _ => ?_⟩
  unfold isThree at h
  have hr : runeV x y z w = x % 16 * 4096 + y % 64 * 64 + z % 64 := by simp [runeV, e]
  rw [hr, e]
  unfold decV
  rw [if_neg (by omega), if_neg (by omega), if_pos (by omega), if_pos (by omega)]
  exact ⟨rfl, by omega⟩
 ·refine ⟨fun h0 => by omega, fun _ => ?_⟩
  unfold isFour at h
  have hr : runeV x y z w = x % 8 * 262144 + y % 64 * 4096 + z % 64 * 64 + w % 64 := by simp [runeV, e]
  rw [hr, e]
  unfold decV
  rw [if_neg (by omega), if_neg (by omega), if_neg (by omega), if_pos (by omega), if_pos (by omega)]
  exact ⟨rfl, by omega⟩
 ·refine ⟨fun _ => ?_, fun h0 => absurd e h0⟩
  unfold isOne at h1
  unfold isTwo at h2
  unfold isThree at h3
  unfold isFour at h4
  refine ⟨?_, by omega⟩
  unfold decV
  rw [if_neg (by omega)]
  by_cases g1 : x / 32 = 6 ∧ y / 64 = 2
  ·rw [if_pos g1, if_neg (by omega)]
  rw [if_neg g1]
  by_cases g2 : x / 16 = 14 ∧ y / 64 = 2 ∧ z / 64 = 2
  ·rw [if_pos g2, if_neg (by omega)]
  rw [if_neg g2]
  by_cases g3 : x / 8 = 30 ∧ y / 64 = 2 ∧ z / 64 = 2 ∧ w / 64 = 2
  ·rw [if_pos g3, if_neg (by omega)]
  rw [if_neg g3]
theorem strOfNums_drop (l : List Int) (p : Nat) : (strOfNums l).extract p (strOfNums l).size = strOfNums (l.drop p) := by
 apply ByteArray.ext
 rw [ByteArray.data_extract]
 apply Array.ext'
 rw [Array.toList_extract, strOfNums_size]
 simp only [strOfNums, List.extract_eq_take_drop]
 rw [List.map_drop]
 apply List.take_of_length_le
 simp
theorem atI_drop (l : List Int) (p q : Nat) : atI (l.drop p) (q : Int) = atI l (p + q : Nat) := by
 unfold atI rd
 simp only [List.length_drop, Int.toNat_natCast, List.getD_eq_getElem?_getD, List.getElem?_drop]
 by_cases h : p + q < l.length
 ·rw [if_neg (by omega), if_neg (by omega)]
 ·rw [if_pos (by omega), if_pos (by omega)]
theorem encode_size (r : Int) (h0 : 0 ≤ r) (h1 : r < 55296 ∨ (57344 ≤ r ∧ r ≤ 1114111)) : (Utf8.encode r).size = if r < 128 then 1 else if r < 2048 then 2 else if r < 65536 then 3 else 4 := by
 have hv : Utf8.valid r = true := by simp [Utf8.valid]; omega
 unfold Utf8.encode
 simp only [hv, if_true]
 by_cases g1 : r < 128
 ·rw [if_pos g1, if_pos (by omega)]; rfl
 rw [if_neg g1, if_neg (by omega)]
 by_cases g2 : r < 2048
 ·rw [if_pos g2, if_pos (by omega)]; rfl
 rw [if_neg g2, if_neg (by omega)]
 by_cases g3 : r < 65536
 ·rw [if_pos g3, if_pos (by omega)]; rfl
 rw [if_neg g3, if_neg (by omega)]; rfl
theorem runeV_size (x y z w : Int) (hx0 : 0 ≤ x) (hx1 : x ≤ 255) (hy : y ≤ 255) (hz : z ≤ 255) (hw : w ≤ 255) (h : longOf x y z w ≠ 0) : ((Utf8.encode (runeV x y z w)).size : Int) = longOf x y z w := by
 rcases longOf_cases x y z w with ⟨h, e⟩ | ⟨h, e⟩ | ⟨h, e⟩ | ⟨h, e⟩ | ⟨h1, h2, h3, h4, e⟩
 ·have hr : runeV x y z w = x := by simp [runeV, e]
  unfold isOne at h
  rw [hr, e, encode_size _ (by omega) (by omega), if_pos (by omega)]; rfl
 ·have hr : runeV x y z w = x % 32 * 64 + y % 64 := by simp [runeV, e]
  unfold isTwo at h
  rw [hr, e, encode_size _ (by omega) (by omega), if_neg (by omega), if_pos (by omega)]; rfl
 ·have hr : runeV x y z w = x % 16 * 4096 + y % 64 * 64 + z % 64 := by simp [runeV, e]
  unfold isThree at h
  rw [hr, e, encode_size _ (by omega) (by omega), if_neg (by omega), if_neg (by omega), if_pos (by omega)]; rfl
 ·have hr : runeV x y z w = x % 8 * 262144 + y % 64 * 4096 + z % 64 * 64 + w % 64 := by simp [runeV, e]
  unfold isFour at h
  rw [hr, e, encode_size _ (by omega) (by omega), if_neg (by omega), if_neg (by omega), if_neg (by omega)]; rfl
 ·exact absurd e h
theorem atI_range {l : List Int} (hb : Bytes l) (p : Nat) : -1 ≤ atI l (p : Int) ∧ atI l (p : Int) ≤ 255 := by
 by_cases h : p < l.length
 ·obtain ⟨e, h0, h1⟩ := atI_in hb p h
  rw [e]; omega
 ·rw [atI_out l _ (by omega)]; omega
theorem hasFD_int {l : List Int} (hb : Bytes l) : hasFD (strOfNums l) = true ↔ (atI l (0 : Nat) = 239 ∧ atI l (1 : Nat) = 191 ∧ atI l (2 : Nat) = 189) := by
 match l, hb with
 | [], _ => simp [hasFD, strOfNums_size, atI]
 | [a], _ => simp [hasFD, strOfNums_size, atI]
 | [a, b], _ => simp [hasFD, strOfNums_size, atI]
 | a :: b :: c :: r, hb =>
  have ha := hb a (by simp)
  have hb' := hb b (by simp)
  have hc := hb c (by simp)
  have e0 := (atI_in hb 0 (by simp)).1
  have e1 := (atI_in hb 1 (by simp)).1
  have e2 := (atI_in hb 2 (by simp)).1
  rw [e0, e1, e2]
  have hx : ((strOfNums (a :: b :: c :: r)).extract 0 3).toList = [UInt8.ofNat a.toNat, UInt8.ofNat b.toNat, UInt8.ofNat c.toNat] := by
   have he : (strOfNums (a :: b :: c :: r)).extract 0 3 = strOfNums [a, b, c] := by
    apply ByteArray.ext
    rw [ByteArray.data_extract]
    apply Array.ext'
    rw [Array.toList_extract]
    simp [strOfNums]
   rw [he, Lib.strOfNums_toList]
   rfl
  have u : ∀ (n : Int) (k : Nat), 0 ≤ n → n ≤ 255 → k ≤ 255 → ((UInt8.ofNat n.toNat = UInt8.ofNat k) ↔ n = (k : Int)) := by
   intro n k h0 h1 h2
   rw [← UInt8.toNat_inj]
   simp
   omega
  unfold hasFD
  rw [hx, strOfNums_size]
  have u0 := u a 239 ha.1 ha.2 (by decide)
  have u1 := u b 191 hb'.1 hb'.2 (by decide)
  have u2 := u c 189 hc.1 hc.2 (by decide)
  simp only [beq_iff_eq, Bool.and_eq_true, decide_eq_true_eq, List.cons.injEq, and_true]
  have v0 : (UInt8.ofNat a.toNat = (239 : UInt8)) ↔ a = 239 := u0
  have v1 : (UInt8.ofNat b.toNat = (191 : UInt8)) ↔ b = 191 := u1
  have v2 : (UInt8.ofNat c.toNat = (189 : UInt8)) ↔ c = 189 := u2
  rw [v0, v1, v2]
  simp
/-- The step at a place, by the table. -/
def ofL (l : List Int) (p : Nat) : Int × Int × Bool :=
 if longAt l (p : Int) = 0 then (65533, 1, false) else (runeV (atI l (p : Int)) (atI l (p + 1 : Nat)) (atI l (p + 2 : Nat)) (atI l (p + 3 : Nat)), longAt l (p : Int), true)
theorem longAt_nat (l : List Int) (p : Nat) (hp : p ≤ 4611686018427387904) : longAt l (p : Int) = longOf (atI l (p : Int)) (atI l (p + 1 : Nat)) (atI l (p + 2 : Nat)) (atI l (p + 3 : Nat)) := by
 unfold longAt
 rw [wrap64_small (by omega) (by omega), wrap64_small (by omega) (by omega), wrap64_small (by omega) (by omega)]
 rfl
theorem first_of {l : List Int} (hb : Bytes l) (p : Nat) (hp : p < l.length) (hl : l.length ≤ 4611686018427387904) :
  firstOf ((strOfNums l).extract p (strOfNums l).size) = ofL l p ∧ ((Utf8.decode (strOfNums l) p).2 : Int) = (ofL l p).2.1 := by
 have d1 := decode_int hb p hp
 have d2 := decode_int (hb.drop p) 0 (by simp; omega)
 have r0 := atI_range hb p
 have r1 := atI_range hb (p + 1)
 have r2 := atI_range hb (p + 2)
 have r3 := atI_range hb (p + 3)
 have hx0 : 0 ≤ atI l (p : Int) := by rw [(atI_in hb p hp).1]; exact (atI_in hb p hp).2.1
 have q0 := atI_drop l p 0
 have q1 := atI_drop l p 1
 have q2 := atI_drop l p 2
 have q3 := atI_drop l p 3
 have hfd := hasFD_int (hb.drop p)
 simp only [Nat.zero_add, Nat.add_zero] at d2 q0 q1 q2 q3
 rw [q0, q1, q2, q3] at d2
 rw [q0, q1, q2] at hfd
 have hlong := longAt_nat l p (by omega)
 rw [strOfNums_drop]
 unfold ofL firstOf
 rw [hlong, strOfNums_size, if_neg (by simp; omega)]
 have hD := decV_long (atI l (p : Int)) (atI l (p + 1 : Nat)) (atI l (p + 2 : Nat)) (atI l (p + 3 : Nat)) hx0 r0.2 r1.2 r2.2 r3.2 r1.1 r2.1 r3.1
 have hS := runeV_size (atI l (p : Int)) (atI l (p + 1 : Nat)) (atI l (p + 2 : Nat)) (atI l (p + 3 : Nat)) hx0 r0.2 r1.2 r2.2 r3.2
 obtain ⟨x, hx⟩ : ∃ x, atI l (p : Int) = x := ⟨_, rfl⟩
 obtain ⟨y, hy⟩ : ∃ x, atI l (p + 1 : Nat) = x := ⟨_, rfl⟩
 obtain ⟨z, hz⟩ : ∃ x, atI l (p + 2 : Nat) = x := ⟨_, rfl⟩
 obtain ⟨v, hv⟩ : ∃ x, atI l (p + 3 : Nat) = x := ⟨_, rfl⟩
 simp only [hx, hy, hz, hv] at d1 d2 hfd hD hS ⊢
 clear q0 q1 q2 q3 hx hy hz hv hlong r0 r1 r2 r3 hx0
 by_cases h0 : longOf x y z v = 0
 ·obtain ⟨hd, hn⟩ := hD.1 h0
  rw [hd] at d1 d2
  simp only [Prod.mk.injEq] at d1 d2
  have e1 : (Utf8.decode (strOfNums (l.drop p)) 0).1 = 65533 := by omega
  rw [if_pos h0, if_pos e1, if_neg (fun h => hn (hfd.1 h))]
  exact ⟨rfl, by rw [d1.2]; rfl⟩
 ·obtain ⟨hd, hr⟩ := hD.2 h0
  have hs := hS h0
  rw [hd] at d1 d2
  simp only [Prod.mk.injEq] at d1 d2
  have hpos : 0 ≤ longOf x y z v := by rw [← hs]; omega
  rw [if_neg h0]
  by_cases hr3 : runeV x y z v = 65533
  ·have e1 : (Utf8.decode (strOfNums (l.drop p)) 0).1 = 65533 := by omega
   rw [if_pos e1, if_pos (hfd.2 (hr.1 hr3)), hr3]
   have hl3 : longOf x y z v = 3 := by
    rw [hr3] at hs
    rw [← hs]
    rfl
   rw [hl3] at d1 ⊢
   exact ⟨rfl, by rw [d1.2]; rfl⟩
  ·have e1 : ¬ (Utf8.decode (strOfNums (l.drop p)) 0).1 = 65533 := by omega
   rw [if_neg e1, d2.1, hs]
   refine ⟨rfl, ?_⟩
   show ((Utf8.decode (strOfNums l) p).2 : Int) = longOf x y z v
   rw [d1.2]
   omega

end Go.Proofs.YtijbkiajhicooabDoor.PW

namespace Go.Proofs.YtijbkiajhicooabDoor.PW
open Go.RowKit Go.Proofs.YtijbkiajhicooabDoorW.PrintWords Go.Proofs.YtijbkiajhicooabDoorW.PrintLast Go.Proofs.YtijbkiajhicooabDoorW.PrintMore
attribute [local go_sem] max2_int min2_int max_two min_two max_three min_three max_four min_four   -- for this text's walks alone
set_option linter.unusedVariables false
set_option linter.unusedSimpArgs false

def Ev {β : Type} (g : Nat → Option β) (v : β) : Prop := ∃ K, ∀ k, K ≤ k → g k = some v
theorem Ev.pure {β : Type} (v : β) : Ev (fun _ => some v) v := ⟨0, fun _ _ => rfl⟩
theorem Ev.of_eq {β : Type} {g : Nat → Option β} {v : β} (h : ∀ k, g k = some v) : Ev g v := ⟨0, fun k _ => h k⟩
theorem Ev.bind {α β : Type} {g : Nat → Option α} {h : Nat → α → Option β} {v : α} {u : β} (hg : Ev g v) (hh : Ev (fun k => h k v) u) : Ev (fun k => (g k).bind (h k)) u := by
 obtain ⟨K, hK⟩ := hg
 obtain ⟨M, hM⟩ := hh
 refine ⟨max K M, fun k hk => ?_⟩
 show (g k).bind (h k) = some u
 rw [hK k (by omega)]
 exact hM k (by omega)
theorem Ev.succ {β : Type} {g h : Nat → Option β} {v : β} (hh : Ev h v) (e : ∀ k, g (k + 1) = h k) : Ev g v := by
 obtain ⟨K, hK⟩ := hh
 refine ⟨K + 1, fun k hk => ?_⟩
 obtain ⟨m, rfl⟩ : ∃ m, k = m + 1 := ⟨k - 1, by omega⟩
 rw [e]
 exact hK m (by omega)
theorem Ev.congr {β : Type} {g h : Nat → Option β} {v : β} (hh : Ev h v) (e : ∀ k, g k = h k) : Ev g v := by
 obtain ⟨K, hK⟩ := hh
 exact ⟨K, fun k hk => by rw [e]; exact hK k hk⟩
theorem Ev.some {β : Type} {g : Nat → Option β} {v : β} (h : Ev g v) : ∃ k, g k = some v := by
 obtain ⟨K, hK⟩ := h
 exact ⟨K, hK K (Nat.le_refl _)⟩
/-- Does an encoding begin ahead of the place and end behind it? -/
def insideB (l : List Int) (p : Nat) : Bool :=
 (decide (1 ≤ p) && decide (longAt l ((p - 1 : Nat) : Int) > 1)) || (decide (2 ≤ p) && decide (longAt l ((p - 2 : Nat) : Int) > 2)) || (decide (3 ≤ p) && decide (longAt l ((p - 3 : Nat) : Int) > 3))
end Go.Proofs.YtijbkiajhicooabDoor.PW

namespace Go.Proofs.YtijbkiajhicooabDoor.PW
open Go.RowKit Go.Proofs.YtijbkiajhicooabDoorW.PrintWords Go.Proofs.YtijbkiajhicooabDoorW.PrintLast Go.Proofs.YtijbkiajhicooabDoorW.PrintMore
attribute [local go_sem] max2_int min2_int max_two min_two max_three min_three max_four min_four   -- for this text's walks alone
set_option linter.unusedVariables false
set_option linter.unusedSimpArgs false

/-- How far the step at a place goes. -/
def widL (l : List Int) (p : Nat) : Nat := if longAt l (p : Int) = 0 then 1 else (longAt l (p : Int)).toNat
theorem longAt_facts {l : List Int} (hb : Bytes l) (p : Nat) (hl : l.length ≤ 4398046511104) (hp : p ≤ l.length) :
  0 ≤ longAt l (p : Int) ∧ longAt l (p : Int) ≤ 4 ∧ (0 < longAt l (p : Int) → p + (longAt l (p : Int)).toNat ≤ l.length) ∧
  (∀ j : Nat, 1 ≤ j → (j : Int) < longAt l (p : Int) → 128 ≤ atI l (p + j : Nat) ∧ atI l (p + j : Nat) ≤ 191) ∧ (128 ≤ atI l (p : Int) ∧ atI l (p : Int) ≤ 191 → longAt l (p : Int) = 0) := by
 have hlong := longAt_nat l p (by omega)
 have r1 : 0 ≤ atI l (p + 1 : Nat) → p + 1 < l.length := fun h => by
  by_cases g : p + 1 < l.length
  ·exact g
  ·rw [atI_out l _ (by omega)] at h; omega
 have r2 : 0 ≤ atI l (p + 2 : Nat) → p + 2 < l.length := fun h => by
  by_cases g : p + 2 < l.length
  ·exact g
  ·rw [atI_out l _ (by omega)] at h; omega
 have r3 : 0 ≤ atI l (p + 3 : Nat) → p + 3 < l.length := fun h => by
  by_cases g : p + 3 < l.length
  ·exact g
  ·rw [atI_out l _ (by omega)] at h; omega
 have r0 : 0 ≤ atI l (p : Int) → p < l.length := fun h => by
  by_cases g : p < l.length
  ·exact g
  ·rw [atI_out l _ (by omega)] at h; omega
 have sp : ∀ j : Nat, 1 ≤ j → (j : Int) < 4 → j = 1 ∨ j = 2 ∨ j = 3 := fun j h1 h2 => by omega
 rw [hlong]
 rcases longOf_cases (atI l (p : Int)) (atI l (p + 1 : Nat)) (atI l (p + 2 : Nat)) (atI l (p + 3 : Nat)) with ⟨h, e⟩ | ⟨h, e⟩ | ⟨h, e⟩ | ⟨h, e⟩ | ⟨h1, h2, h3, h4, e⟩
 ·unfold isOne at h
  rw [e]
  exact ⟨by omega, by omega, fun _ => by have := r0 (by omega); simp; omega, fun j h1 h2 => by omega, fun g => by omega⟩
 ·unfold isTwo at h
  rw [e]
  refine ⟨by omega, by omega, fun _ => by have := r1 (by omega); simp; omega, fun j h1 h2 => ?_, fun g => by omega⟩
  obtain rfl : j = 1 := by omega
  omega
 ·unfold isThree at h
  rw [e]
  refine ⟨by omega, by omega, fun _ => by have := r2 (by omega); simp; omega, fun j h1 h2 => ?_, fun g => by omega⟩
  rcases (show j = 1 ∨ j = 2 by omega) with rfl | rfl
  ·omega
  ·omega
 ·unfold isFour at h
  rw [e]
  refine ⟨by omega, by omega, fun _ => by have := r3 (by omega); simp; omega, fun j h1 h2 => ?_, fun g => by omega⟩
  rcases sp j h1 h2 with rfl | rfl | rfl
  ·omega
  ·omega
  ·omega
 ·rw [e]
  exact ⟨by omega, by omega, fun h => by omega, fun j h1 h2 => by omega, fun _ => rfl⟩
theorem widL_pos {l : List Int} (hb : Bytes l) (p : Nat) (hl : l.length ≤ 4398046511104) (hp : p < l.length) : 1 ≤ widL l p ∧ widL l p ≤ 4 ∧ p + widL l p ≤ l.length := by
 obtain ⟨h0, h1, h2, _, _⟩ := longAt_facts hb p hl (by omega)
 unfold widL
 by_cases h : longAt l (p : Int) = 0
 ·rw [if_pos h]; omega
 ·rw [if_neg h]
  have := h2 (by omega)
  omega
/-- A place where a step begins: no encoding reaches over it. -/
def Vis (l : List Int) (p : Nat) : Prop := ∀ j : Nat, 1 ≤ j → j ≤ 3 → j ≤ p → longAt l ((p - j : Nat) : Int) ≤ j
theorem inside_vis {l : List Int} {p : Nat} (h : Vis l p) : insideB l p = false := by
 unfold insideB
 have h1 := h 1 (by omega) (by omega)
 have h2 := h 2 (by omega) (by omega)
 have h3 := h 3 (by omega) (by omega)
 by_cases g1 : 1 ≤ p
 ·have := h1 g1
  by_cases g2 : 2 ≤ p
  ·have := h2 g2
   by_cases g3 : 3 ≤ p
   ·have := h3 g3
    simp; omega
   ·simp; omega
  ·simp; omega
 ·simp; omega
theorem vis_next {l : List Int} (hb : Bytes l) {p : Nat} (hl : l.length ≤ 4398046511104) (hp : p < l.length) (h : Vis l p) : Vis l (p + widL l p) := by
 intro j j1 j3 jp
 obtain ⟨h0, h4, h2, hc, _⟩ := longAt_facts hb p hl (by omega)
 obtain ⟨w1, w4, wl⟩ := widL_pos hb p hl hp
 by_cases c1 : j = widL l p
 ·rw [show p + widL l p - j = p by omega]
  rw [c1]
  unfold widL
  by_cases g : longAt l (p : Int) = 0
  ·rw [if_pos g]; omega
  ·rw [if_neg g]; omega
 ·by_cases c2 : j < widL l p
  ·obtain ⟨i, hi⟩ : ∃ i, widL l p - j = i := ⟨_, rfl⟩
   have hlt : (i : Int) < longAt l (p : Int) := by
    unfold widL at hi c2
    by_cases g : longAt l (p : Int) = 0
    ·rw [if_pos g] at c2; omega
    ·rw [if_neg g] at hi; omega
   have hcc := hc i (by omega) hlt
   have hz := (longAt_facts hb (p + i) hl (by omega)).2.2.2.2 hcc
   rw [show p + widL l p - j = p + i by omega, hz]
   omega
  ·have := h (j - widL l p) (by omega) (by omega) (by omega)
   rw [show p + widL l p - j = p - (j - widL l p) by omega]
   omega
theorem vis_zero (l : List Int) : Vis l 0 := fun j h1 _ h3 => by omega
theorem inside_step {l : List Int} (hb : Bytes l) {p : Nat} (hl : l.length ≤ 4398046511104) (hp : p < l.length) (j : Nat) (h1 : 1 ≤ j) (h2 : j < widL l p) : insideB l (p + j) = true := by
 obtain ⟨h0, h4, _, _, _⟩ := longAt_facts hb p hl (by omega)
 obtain ⟨w1, w4, wl⟩ := widL_pos hb p hl hp
 have hlt : (j : Int) < longAt l (p : Int) := by
  unfold widL at h2
  by_cases g : longAt l (p : Int) = 0
  ·rw [if_pos g] at h2; omega
  ·rw [if_neg g] at h2; omega
 unfold insideB
 rcases (show j = 1 ∨ j = 2 ∨ j = 3 by omega) with rfl | rfl | rfl
 ·rw [show p + 1 - 1 = p by omega]
  simp; omega
 ·rw [show p + 2 - 2 = p by omega]
  simp; omega
 ·rw [show p + 3 - 3 = p by omega]
  simp; omega
end Go.Proofs.YtijbkiajhicooabDoor.PW

namespace Go.Proofs.YtijbkiajhicooabDoor.PW
open Go.RowKit Go.Proofs.YtijbkiajhicooabDoorW.PrintWords Go.Proofs.YtijbkiajhicooabDoorW.PrintLast Go.Proofs.YtijbkiajhicooabDoorW.PrintMore
attribute [local go_sem] max2_int min2_int max_two min_two max_three min_three max_four min_four   -- for this text's walks alone
set_option linter.unusedVariables false
set_option linter.unusedSimpArgs false

theorem ofL_wid {l : List Int} (hb : Bytes l) (hl : l.length ≤ 4398046511104) (p : Nat) (hp : p < l.length) : (ofL l p).2.1 = (widL l p : Int) := by
 unfold ofL widL
 by_cases g : longAt l (p : Int) = 0
 ·rw [if_pos g, if_pos g]; rfl
 ·rw [if_neg g, if_neg g]
  have := (longAt_facts hb p hl (by omega)).1
  show longAt l (p : Int) = _
  omega
theorem sf_cons {l : List Int} (hb : Bytes l) (hl : l.length ≤ 4398046511104) (p : Nat) (hp : p < l.length) :
  stepsFrom (strOfNums l) p = ((p : Int), ofL l p) :: stepsFrom (strOfNums l) (p + widL l p) := by
 have h := first_of hb p hp (by omega)
 have hw := ofL_wid hb hl p hp
 rw [stepsFrom_cons _ _ (by rw [strOfNums_size]; exact hp), h.1, show (Utf8.decode (strOfNums l) p).2 = widL l p by omega]
theorem sf_nil {l : List Int} (p : Nat) (hp : l.length ≤ p) : stepsFrom (strOfNums l) p = [] := stepsFrom_nil _ _ (by rw [strOfNums_size]; omega)
/-- A step's kind. -/
abbrev kOf (x : PStep) : Int := kindOf x.2.1 x.2.2.2
theorem runStep_nil (x : PStep) : runStep [] x = [⟨⟨x.1, wrap64 (x.1 + x.2.2.1)⟩, kOf x⟩] := by
 unfold runStep
 rw [if_neg (by simp)]
 rfl
theorem rd_run_last (rs : List S109) (r : S109) : rd_T109 (rs ++ [r]) (((rs ++ [r]).length : Int) - 1) = r := by
 unfold rd_T109
 rw [List.getD_eq_getElem?_getD, show (((rs ++ [r]).length : Int) - 1).toNat = rs.length by simp, List.getElem?_append_right (Nat.le_refl _)]
 simp
theorem runStep_snoc (rs : List S109) (r : S109) (x : PStep) :
  runStep (rs ++ [r]) x = if r.f1 = kOf x then rs ++ [⟨⟨r.f0.f0, wrap64 (x.1 + x.2.2.1)⟩, r.f1⟩] else (rs ++ [r]) ++ [⟨⟨x.1, wrap64 (x.1 + x.2.2.1)⟩, kOf x⟩] := by
 unfold runStep
 rw [rd_run_last]
 by_cases h : r.f1 = kOf x
 ·rw [if_pos ⟨by simp, h⟩, if_pos h, show (((rs ++ [r]).length : Int) - 1).toNat = rs.length by simp]
  rw [List.set_append_right _ _ (Nat.le_refl _)]
  simp
 ·rw [if_neg (fun g => h g.2), if_neg h]
def Chain : Int → List S109 → Int → Prop
 | a, [], b => a = b
 | a, r :: rs, b => r.f0.f0 = a ∧ a < r.f0.f1 ∧ Chain r.f0.f1 rs b
theorem chain_snoc (r : S109) : ∀ (rs : List S109) (a b : Int), Chain a (rs ++ [r]) b ↔ (Chain a rs r.f0.f0 ∧ r.f0.f0 < r.f0.f1 ∧ r.f0.f1 = b) := by
 intro rs
 induction rs with
 | nil =>
  intro a b
  simp only [List.nil_append, Chain]
  constructor
  ·rintro ⟨rfl, h, h2⟩; exact ⟨rfl, h, h2⟩
  ·rintro ⟨rfl, h, h2⟩; exact ⟨rfl, h, h2⟩
 | cons q rs ih =>
  intro a b
  simp only [List.cons_append, Chain, ih]
  constructor
  ·rintro ⟨h1, h2, h3, h4, h5⟩; exact ⟨⟨h1, h2, h3⟩, h4, h5⟩
  ·rintro ⟨⟨h1, h2, h3⟩, h4, h5⟩; exact ⟨h1, h2, h3, h4, h5⟩
theorem chain_step {a b : Int} {rs : List S109} {x : PStep} (h : Chain a rs b) (hx : x.1 = b) (hw : 0 < x.2.2.1) (h0 : 0 ≤ b) (hb : b + x.2.2.1 ≤ 4398046511104) : Chain a (runStep rs x) (b + x.2.2.1) := by
 have e : wrap64 (x.1 + x.2.2.1) = b + x.2.2.1 := by rw [wrap64_small (by omega) (by omega), hx]
 rcases List.eq_nil_or_concat rs with rfl | ⟨rs', r, rfl⟩
 ·rw [runStep_nil, e]
  exact ⟨show x.1 = a by rw [hx]; exact h.symm, show a < b + x.2.2.1 by rw [show a = b from h]; omega, rfl⟩
 ·rw [List.concat_eq_append] at h ⊢
  rw [chain_snoc] at h
  rw [runStep_snoc, e]
  by_cases g : r.f1 = kOf x
  ·rw [if_pos g, chain_snoc]
   exact ⟨h.1, by show r.f0.f0 < b + x.2.2.1; omega, rfl⟩
  ·rw [if_neg g, chain_snoc, chain_snoc]
   exact ⟨⟨h.1, h.2.1, by show r.f0.f1 = x.1; omega⟩, by show x.1 < b + x.2.2.1; omega, rfl⟩
end Go.Proofs.YtijbkiajhicooabDoor.PW

namespace Go.Proofs.YtijbkiajhicooabDoor.PW
open Go.RowKit Go.Proofs.YtijbkiajhicooabDoorW.PrintWords Go.Proofs.YtijbkiajhicooabDoorW.PrintLast Go.Proofs.YtijbkiajhicooabDoorW.PrintMore
attribute [local go_sem] max2_int min2_int max_two min_two max_three min_three max_four min_four   -- for this text's walks alone
set_option linter.unusedVariables false
set_option linter.unusedSimpArgs false

theorem longOf_one {x y z w : Int} (h : isOne x) : longOf x y z w = 1 := by
 rcases longOf_cases x y z w with ⟨g, e⟩ | ⟨g, e⟩ | ⟨g, e⟩ | ⟨g, e⟩ | ⟨g, _⟩
 ·exact e
 ·unfold isOne at h; unfold isTwo at g; omega
 ·unfold isOne at h; unfold isThree at g; omega
 ·unfold isOne at h; unfold isFour at g; omega
 ·exact absurd h g
theorem longOf_two {x y z w : Int} (h : isTwo x y) : longOf x y z w = 2 := by
 rcases longOf_cases x y z w with ⟨g, e⟩ | ⟨g, e⟩ | ⟨g, e⟩ | ⟨g, e⟩ | ⟨_, g, _⟩
 ·unfold isTwo at h; unfold isOne at g; omega
 ·exact e
 ·unfold isTwo at h; unfold isThree at g; omega
 ·unfold isTwo at h; unfold isFour at g; omega
 ·exact absurd h g
theorem longOf_three {x y z w : Int} (h : isThree x y z) : longOf x y z w = 3 := by
 rcases longOf_cases x y z w with ⟨g, e⟩ | ⟨g, e⟩ | ⟨g, e⟩ | ⟨g, e⟩ | ⟨_, _, g, _⟩
 ·unfold isThree at h; unfold isOne at g; omega
 ·unfold isThree at h; unfold isTwo at g; omega
 ·exact e
 ·unfold isThree at h; unfold isFour at g; omega
 ·exact absurd h g
theorem longOf_none {x y z w : Int} (h1 : ¬ isOne x) (h2 : ¬ isTwo x y) (h3 : ¬ isThree x y z) (h4 : ¬ isFour x y z w) : longOf x y z w = 0 := by
 rcases longOf_cases x y z w with ⟨g, e⟩ | ⟨g, e⟩ | ⟨g, e⟩ | ⟨g, e⟩ | ⟨_, _, _, _, e⟩
 ·exact absurd g h1
 ·exact absurd g h2
 ·exact absurd g h3
 ·exact absurd g h4
 ·exact e
theorem atI_slice (l : List Int) (S E q : Nat) : atI ((l.take E).drop S) (q : Int) = if S + q < E then atI l (S + q : Nat) else -1 := by
 rw [atI_drop]
 by_cases h : S + q < E
 ·rw [if_pos h]
  unfold atI rd
  simp only [List.length_take, Int.toNat_natCast, List.getD_eq_getElem?_getD, List.getElem?_take]
  rw [if_pos h]
  by_cases g : S + q < l.length
  ·rw [if_neg (by omega), if_neg (by omega)]
  ·rw [if_pos (by omega), if_pos (by omega)]
 ·rw [if_neg h]
  exact atI_out _ _ (by simp; omega)
/-- The piece from S to E. -/
abbrev piece (l : List Int) (S E : Nat) : List Int := (l.take E).drop S
theorem piece_len (l : List Int) (S E : Nat) (h : E ≤ l.length) : (piece l S E).length = E - S := by simp; omega
theorem Bytes.piece {l : List Int} (h : Bytes l) (S E : Nat) : Bytes (piece l S E) := fun x hx => h x (List.mem_of_mem_take (List.mem_of_mem_drop hx))
theorem long_slice {l : List Int} (hb : Bytes l) (hl : l.length ≤ 4398046511104) (S E p : Nat) (hS : S ≤ p) (hp : p < E) (hE : E ≤ l.length) (hw : p + widL l p ≤ E) :
  longAt (piece l S E) ((p - S : Nat) : Int) = longAt l (p : Int) ∧ ofL (piece l S E) (p - S) = ofL l p := by
 have h0 := atI_slice l S E (p - S)
 have h1 := atI_slice l S E (p - S + 1)
 have h2 := atI_slice l S E (p - S + 2)
 have h3 := atI_slice l S E (p - S + 3)
 rw [if_pos (by omega), show S + (p - S) = p by omega] at h0
 rw [show S + (p - S + 1) = p + 1 by omega] at h1
 rw [show S + (p - S + 2) = p + 2 by omega] at h2
 rw [show S + (p - S + 3) = p + 3 by omega] at h3
 have hL := longAt_nat l p (by omega)
 have hL' := longAt_nat (piece l S E) (p - S) (by omega)
 obtain ⟨x, hx⟩ : ∃ x, atI l (p : Int) = x := ⟨_, rfl⟩
 obtain ⟨y, hy⟩ : ∃ x, atI l (p + 1 : Nat) = x := ⟨_, rfl⟩
 obtain ⟨z, hz⟩ : ∃ x, atI l (p + 2 : Nat) = x := ⟨_, rfl⟩
 obtain ⟨v, hv⟩ : ∃ x, atI l (p + 3 : Nat) = x := ⟨_, rfl⟩
 obtain ⟨y', hy'⟩ : ∃ x, atI (piece l S E) (p - S + 1 : Nat) = x := ⟨_, rfl⟩
 obtain ⟨z', hz'⟩ : ∃ x, atI (piece l S E) (p - S + 2 : Nat) = x := ⟨_, rfl⟩
 obtain ⟨v', hv'⟩ : ∃ x, atI (piece l S E) (p - S + 3 : Nat) = x := ⟨_, rfl⟩
 have hx' : atI (piece l S E) ((p - S : Nat) : Int) = x := h0.trans hx
 replace h1 := hy'.symm.trans h1
 replace h2 := hz'.symm.trans h2
 replace h3 := hv'.symm.trans h3
 rw [hy] at h1
 rw [hz] at h2
 rw [hv] at h3
 rw [hx, hy, hz, hv] at hL
 rw [hx', hy', hz', hv'] at hL'
 unfold widL at hw
 rw [hL] at hw
 unfold ofL
 rw [hL, hL', hx, hy, hz, hv, hx', hy', hz', hv']
 clear hL hL' hx hy hz hv hx' hy' hz' hv' h0
 rcases longOf_cases x y z v with ⟨g, e⟩ | ⟨g, e⟩ | ⟨g, e⟩ | ⟨g, e⟩ | ⟨g1, g2, g3, g4, e⟩
 ·have e' : longOf x y' z' v' = 1 := longOf_one g
  rw [e, e']
  refine ⟨rfl, ?_⟩
  unfold runeV
  rw [e, e']
  rfl
 ·rw [e, if_neg (by decide)] at hw
  replace hw : p + 2 ≤ E := hw
  rw [if_pos (by omega)] at h1
  subst h1
  have e' : longOf x y' z' v' = 2 := longOf_two g
  rw [e, e']
  refine ⟨rfl, ?_⟩
  unfold runeV
  rw [e, e']
  rfl
 ·rw [e, if_neg (by decide)] at hw
  replace hw : p + 3 ≤ E := hw
  rw [if_pos (by omega)] at h1 h2
  subst h1 h2
  have e' : longOf x y' z' v' = 3 := longOf_three g
  rw [e, e']
  refine ⟨rfl, ?_⟩
  unfold runeV
  rw [e, e']
  rfl
 ·rw [e, if_neg (by decide)] at hw
  replace hw : p + 4 ≤ E := hw
  rw [if_pos (by omega)] at h1 h2 h3
  subst h1 h2 h3
  exact ⟨rfl, rfl⟩
 ·have i1 : y' = y ∨ y' = -1 := by rw [h1]; split <;> simp
  have i2 : z' = z ∨ z' = -1 := by rw [h2]; split <;> simp
  have i3 : v' = v ∨ v' = -1 := by rw [h3]; split <;> simp
  have e' : longOf x y' z' v' = 0 := by
   unfold isTwo at g2
   unfold isThree at g3
   unfold isFour at g4
   refine longOf_none g1 ?_ ?_ ?_
   ·unfold isTwo; omega
   ·unfold isThree; omega
   ·unfold isFour; omega
  rw [e, e']
  exact ⟨rfl, rfl⟩
/-- E is an edge behind p: steps from p on come to it. -/
inductive Reach (l : List Int) (E : Nat) : Nat → Prop
 | here : Reach l E E
 | step {p : Nat} : p < E → E ≤ l.length → Reach l E (p + widL l p) → Reach l E p
theorem Reach.le {l : List Int} {E p : Nat} (h : Reach l E p) : p ≤ E := by
 induction h with
 | here => exact Nat.le_refl _
 | step h1 _ _ _ => omega
/-- A place where a step begins is come to from every such place ahead of it. -/
theorem reach_vis {l : List Int} (hb : Bytes l) (hl : l.length ≤ 4398046511104) (E : Nat) (hE : E ≤ l.length) (hv : Vis l E) : ∀ (n p : Nat), E - p = n → p ≤ E → Reach l E p := by
 intro n
 induction n using Nat.strongRecOn with
 | _ n ih =>
  intro p hn hp
  by_cases h : p = E
  ·subst h; exact .here
  ·obtain ⟨w1, w4, wl⟩ := widL_pos hb p hl (by omega)
   have : p + widL l p ≤ E := by
    refine Nat.le_of_not_lt fun hlt => ?_
    have h3 := hv (E - p) (by omega) (by omega) (by omega)
    rw [show E - (E - p) = p by omega] at h3
    have := longAt_facts hb p hl (by omega)
    unfold widL at hlt
    by_cases g : longAt l (p : Int) = 0
    ·rw [if_pos g] at hlt; omega
    ·rw [if_neg g] at hlt; omega
   exact .step (by omega) hE (ih (E - (p + widL l p)) (by omega) _ rfl this)

end Go.Proofs.YtijbkiajhicooabDoor.PW

namespace Go.Proofs.YtijbkiajhicooabDoor.PW
open Go.RowKit Go.Proofs.YtijbkiajhicooabDoorW.PrintWords Go.Proofs.YtijbkiajhicooabDoorW.PrintLast Go.Proofs.YtijbkiajhicooabDoorW.PrintMore
attribute [local go_sem] max2_int min2_int max_two min_two max_three min_three max_four min_four   -- for this text's walks alone
set_option linter.unusedVariables false
set_option linter.unusedSimpArgs false

theorem strOfNums_whole (l : List Int) : (strOfNums l).extract 0 (strOfNums l).size = strOfNums l := by
 have := strOfNums_drop l 0
 rwa [List.drop_zero] at this
theorem step_at_ev {l : List Int} (hb : Bytes l) (hl : l.length ≤ 4398046511104) (q : Nat) (hq : q < l.length) : step_at.f l (q : Int) = some (ofL l q) := by
 obtain ⟨w1, w4, wl⟩ := widL_pos hb q hl hq
 obtain ⟨E, hE⟩ : ∃ E : Nat, E = min (q + 4) l.length := ⟨_, rfl⟩
 have hm : mn (wrap64 ((q : Int) + 4)) (l.length : Int) = (E : Int) := by
  rw [wrap64_small (by omega) (by omega)]
  unfold mn
  split <;> omega
 have hEl : E ≤ l.length := by omega
 have hqE : q < E := by omega
 have hwE : q + widL l q ≤ E := by omega
 have hs := (long_slice hb hl q E q (Nat.le_refl _) hqE hEl hwE).2
 rw [Nat.sub_self] at hs
 have hlen := piece_len l q E hEl
 have hf := (first_of (hb.piece q E) 0 (by omega) (by omega)).1
 rw [strOfNums_whole] at hf
 unfold step_at.f
 rw [hm, if_pos (by omega), if_pos (by omega), if_pos (by omega), Int.toNat_natCast, Int.toNat_natCast]
 unfold step_first.f
 rw [Option.bind_some]
 show some ((firstOf (strOfNums (piece l q E)))) = _
 rw [hf, hs]
/-- How far ahead of a place the step begins that goes over it. -/
def insideK (l : List Int) (p : Nat) : Nat :=
 if 1 ≤ p ∧ 1 < widL l (p - 1) then 1 else if 2 ≤ p ∧ 2 < widL l (p - 2) then 2 else if 3 ≤ p ∧ 3 < widL l (p - 3) then 3 else 0
def floorL (l : List Int) (p : Nat) : Nat := p - insideK l p
theorem inside_round {l : List Int} (hb : Bytes l) (hl : l.length ≤ 4398046511104) (p j : Nat) (hp : p ≤ l.length) (h1 : 1 ≤ j) (h3 : j ≤ 3) (k : Nat) :
  step_inside.l0 (k + 2) l (p : Int) (j : Int) = if j ≤ p then (if j < widL l (p - j) then some (j : Int) else step_inside.l0 k l (p : Int) ((j + 1 : Nat) : Int)) else some 0 := by
 rw [step_inside.l0, if_pos (by omega), step_inside.j1]
 by_cases h : j ≤ p
 ·have hw : wrap64 ((p : Int) - (j : Int)) = ((p - j : Nat) : Int) := by rw [wrap64_small (by omega) (by omega)]; omega
  have hw2 : wrap64 ((j : Int) + 1) = ((j + 1 : Nat) : Int) := by rw [wrap64_small (by omega) (by omega)]; omega
  have ho := ofL_wid hb hl (p - j) (by omega)
  have hg : ((ofL l (p - j)).2.1 > (j : Int)) ↔ j < widL l (p - j) := by rw [ho]; omega
  rw [if_pos (decide_eq_true (by omega)), if_pos h, hw, step_at_ev hb hl (p - j) (by omega), Option.bind_some, hw2]
  by_cases g : j < widL l (p - j)
  ·rw [if_pos g, if_pos (hg.2 g)]
  ·rw [if_neg g, if_neg (fun e => g (hg.1 e))]
 ·rw [if_neg (by rw [decide_eq_false (by omega)]; decide), if_neg h]
theorem inside_last (l : List Int) (p : Int) (k : Nat) : step_inside.l0 (k + 2) l p 4 = some 0 := by
 rw [step_inside.l0, if_neg (by decide), step_inside.j1, if_neg (by decide)]
theorem insideK_ev {l : List Int} (hb : Bytes l) (hl : l.length ≤ 4398046511104) (p : Nat) (hp : p ≤ l.length) (k : Nat) (hk : 8 ≤ k) : step_inside.f k l (p : Int) = some (insideK l p : Int) := by
 obtain ⟨m, rfl⟩ : ∃ m, k = m + 8 := ⟨k - 8, by omega⟩
 unfold step_inside.f insideK
 have r1 := inside_round hb hl p 1 hp (by omega) (by omega) (m + 6)
 have r2 := inside_round hb hl p 2 hp (by omega) (by omega) (m + 4)
 have r3 := inside_round hb hl p 3 hp (by omega) (by omega) (m + 2)
 have r4 := inside_last l (p : Int) m
 refine r1.trans ?_
 by_cases h1 : 1 ≤ p
 ·by_cases g1 : 1 < widL l (p - 1)
  ·rw [if_pos h1, if_pos g1, if_pos ⟨h1, g1⟩]
  ·rw [if_pos h1, if_neg g1, if_neg (fun e => g1 e.2)]
   refine r2.trans ?_
   by_cases h2 : 2 ≤ p
   ·by_cases g2 : 2 < widL l (p - 2)
    ·rw [if_pos h2, if_pos g2, if_pos ⟨h2, g2⟩]
    ·rw [if_pos h2, if_neg g2, if_neg (fun e => g2 e.2)]
     refine r3.trans ?_
     by_cases h3 : 3 ≤ p
     ·by_cases g3 : 3 < widL l (p - 3)
      ·rw [if_pos h3, if_pos g3, if_pos ⟨h3, g3⟩]
      ·rw [if_pos h3, if_neg g3, if_neg (fun e => g3 e.2)]
       exact r4
     ·rw [if_neg h3, if_neg (fun e => h3 e.1)]
      rfl
   ·rw [if_neg h2, if_neg (fun e => h2 e.1), if_neg (fun e => h2 (by omega))]
    rfl
 ·rw [if_neg h1, if_neg (fun e => h1 e.1), if_neg (fun e => h1 (by omega)), if_neg (fun e => h1 (by omega))]
  rfl
theorem insideK_le (l : List Int) (p : Nat) : insideK l p ≤ p := by
 unfold insideK
 split
 ·omega
 ·split
  ·omega
  ·split <;> omega
theorem long_le_wid (l : List Int) (q : Nat) : longAt l (q : Int) ≤ (widL l q : Int) := by
 unfold widL
 split
 ·omega
 ·omega
theorem long_of_wid {l : List Int} (q : Nat) (h : 1 < widL l q) : longAt l (q : Int) = (widL l q : Int) := by
 unfold widL at h ⊢
 by_cases g : longAt l (q : Int) = 0
 ·rw [if_pos g] at h; omega
 ·rw [if_neg g] at h ⊢; omega
theorem floor_facts {l : List Int} (hb : Bytes l) (hl : l.length ≤ 4398046511104) (p : Nat) (hp : p ≤ l.length) :
  Vis l (floorL l p) ∧ floorL l p ≤ p ∧ (floorL l p = p ∨ (floorL l p < p ∧ p < floorL l p + widL l (floorL l p))) := by
 have hv : ∀ k : Nat, 1 ≤ k → k ≤ p → k < widL l (p - k) → Vis l (p - k) := fun k h1 hk hw j j1 j3 jp => by
  refine Int.not_lt.1 fun hlt => ?_
  have hlong := long_of_wid (l := l) (p - k) (by omega)
  obtain ⟨_, _, _, hc, _⟩ := longAt_facts hb (p - k - j) hl (by omega)
  have := hc j j1 hlt
  rw [show p - k - j + j = p - k by omega] at this
  have hz := (longAt_facts hb (p - k) hl (by omega)).2.2.2.2 this
  omega
 unfold floorL insideK
 by_cases c1 : 1 ≤ p ∧ 1 < widL l (p - 1)
 ·rw [if_pos c1]
  exact ⟨hv 1 (by omega) c1.1 c1.2, by omega, .inr ⟨by omega, by omega⟩⟩
 rw [if_neg c1]
 by_cases c2 : 2 ≤ p ∧ 2 < widL l (p - 2)
 ·rw [if_pos c2]
  exact ⟨hv 2 (by omega) c2.1 c2.2, by omega, .inr ⟨by omega, by omega⟩⟩
 rw [if_neg c2]
 by_cases c3 : 3 ≤ p ∧ 3 < widL l (p - 3)
 ·rw [if_pos c3]
  exact ⟨hv 3 (by omega) c3.1 c3.2, by omega, .inr ⟨by omega, by omega⟩⟩
 rw [if_neg c3]
 refine ⟨fun j j1 j3 jp => ?_, by omega, .inl rfl⟩
 rw [Nat.sub_zero] at jp ⊢
 have := long_le_wid l (p - j)
 rcases (show j = 1 ∨ j = 2 ∨ j = 3 by omega) with rfl | rfl | rfl
 ·have : widL l (p - 1) ≤ 1 := Nat.le_of_not_lt fun h => c1 ⟨jp, h⟩
  omega
 ·have : widL l (p - 2) ≤ 2 := Nat.le_of_not_lt fun h => c2 ⟨jp, h⟩
  omega
 ·have : widL l (p - 3) ≤ 3 := Nat.le_of_not_lt fun h => c3 ⟨jp, h⟩
  omega
/-- An edge at or ahead of a place is at or ahead of the place's floor. -/
theorem edge_floor {l : List Int} (hb : Bytes l) (hl : l.length ≤ 4398046511104) (p : Nat) (hp : p ≤ l.length) (e : Nat) (he : Vis l e) (hle : e ≤ p) : e ≤ floorL l p := by
 obtain ⟨_, h1, h2⟩ := floor_facts hb hl p hp
 refine Nat.le_of_not_lt fun hlt => ?_
 rcases h2 with h2 | h2
 ·omega
 ·have := inside_step hb hl (p := floorL l p) (by omega) (e - floorL l p) (by omega) (by omega)
  rw [show floorL l p + (e - floorL l p) = e by omega, inside_vis he] at this
  cases this
end Go.Proofs.YtijbkiajhicooabDoor.PW

namespace Go.Proofs.YtijbkiajhicooabDoor.PW
open Go.RowKit Go.Proofs.YtijbkiajhicooabDoorW.PrintWords Go.Proofs.YtijbkiajhicooabDoorW.PrintLast Go.Proofs.YtijbkiajhicooabDoorW.PrintMore
attribute [local go_sem] max2_int min2_int max_two min_two max_three min_three max_four min_four   -- for this text's walks alone
set_option linter.unusedVariables false
set_option linter.unusedSimpArgs false

theorem same_hits_l0 (a : List S44) (hl : a.length ≤ 4398046511104) : ∀ (n i : Nat), a.length - i = n → i ≤ a.length → Ev (fun k => galleyref22_SameHits.l0 k a a (i : Int)) true := by
 intro n
 induction n with
 | zero =>
  intro i hn hi
  obtain rfl : i = a.length := by omega
  refine Ev.succ (h := fun _ => some true) (Ev.pure true) (fun k => ?_)
  rw [galleyref22_SameHits.l0, if_neg (by omega)]
 | succ n ih =>
  intro i hn hi
  have hw : wrap64 ((i : Int) + 1) = ((i + 1 : Nat) : Int) := by rw [wrap64_small (by omega) (by omega)]; omega
  refine Ev.succ (ih (i + 1) (by omega) (by omega)) (fun k => ?_)
  rw [galleyref22_SameHits.l0, if_pos (by omega), if_pos (by omega), if_pos (by omega), hw, if_neg (by simp)]
theorem same_hits (a : List S44) (hl : a.length ≤ 4398046511104) : Ev (fun k => galleyref22_SameHits.f k a a) true := by
 refine Ev.congr (same_hits_l0 a hl a.length 0 (by omega) (by omega)) (fun k => ?_)
 unfold galleyref22_SameHits.f
 rw [if_pos rfl]
 rfl

end Go.Proofs.YtijbkiajhicooabDoor.PW

namespace Go.Proofs.YtijbkiajhicooabDoor.PW
open Go.RowKit Go.Proofs.YtijbkiajhicooabDoorW.PrintWords Go.Proofs.YtijbkiajhicooabDoorW.PrintLast Go.Proofs.YtijbkiajhicooabDoorW.PrintMore
attribute [local go_sem] max2_int min2_int max_two min_two max_three min_three max_four min_four   -- for this text's walks alone
set_option linter.unusedVariables false
set_option linter.unusedSimpArgs false

/-- The steps of a text. -/
abbrev stepsL (l : List Int) : List PStep := allSteps (strOfNums l)
end Go.Proofs.YtijbkiajhicooabDoor.PW

namespace Go.Proofs.YtijbkiajhicooabDoor.PW
open Go.RowKit Go.Proofs.YtijbkiajhicooabDoorW.PrintWords Go.Proofs.YtijbkiajhicooabDoorW.PrintLast Go.Proofs.YtijbkiajhicooabDoorW.PrintMore
attribute [local go_sem] max2_int min2_int max_two min_two max_three min_three max_four min_four   -- for this text's walks alone
set_option linter.unusedVariables false
set_option linter.unusedSimpArgs false

theorem words_all_l0 (rs : List S109) (hl : rs.length ≤ 4398046511104) : ∀ (n i : Nat) (out : List S44), rs.length - i = n → i ≤ rs.length → out.length ≤ i →
  Ev (fun k => words_All.l0 k out rs (rs.length : Int) (i : Int)) (out ++ ((rs.drop i).filter fun r => r.f1 == 3).map fun r => ⟨r.f0.f0, r.f0.f1⟩) := by
 intro n
 induction n with
 | zero =>
  intro i out hn hi ho
  obtain rfl : i = rs.length := by omega
  refine Ev.succ (h := fun _ => some out) ?_ (fun k => ?_)
  ·simpa using Ev.pure out
  ·rw [words_All.l0, if_neg (by omega)]
 | succ n ih =>
  intro i out hn hi ho
  have hlt : i < rs.length := by omega
  have hw : wrap64 ((i : Int) + 1) = ((i + 1 : Nat) : Int) := by rw [wrap64_small (by omega) (by omega)]; omega
  have hrd : rd_T109 rs (i : Int) = rs[i] := by
   unfold rd_T109
   rw [List.getD_eq_getElem?_getD, Int.toNat_natCast, List.getElem?_eq_getElem hlt]
   rfl
  rw [List.drop_eq_getElem_cons hlt, List.filter_cons]
  by_cases h3 : (rs[i]).f1 = 3
  ·refine Ev.succ (h := fun k => words_All.l0 k (out ++ [⟨(rs[i]).f0.f0, (rs[i]).f0.f1⟩]) rs (rs.length : Int) ((i + 1 : Nat) : Int)) ?_ (fun k => ?_)
   ·rw [if_pos (by simpa using h3)]
    have := ih (i + 1) (out ++ [⟨(rs[i]).f0.f0, (rs[i]).f0.f1⟩]) (by omega) (by omega) (by simp; omega)
    rw [List.append_assoc] at this
    exact this
   ·rw [words_All.l0, if_pos (by omega), if_pos (by omega), if_pos (by omega), hrd, if_pos h3, if_pos (by omega), hw]
  ·refine Ev.succ (h := fun k => words_All.l0 k out rs (rs.length : Int) ((i + 1 : Nat) : Int)) ?_ (fun k => ?_)
   ·rw [if_neg (by simpa using h3)]
    exact ih (i + 1) out (by omega) (by omega) (by omega)
   ·rw [words_All.l0, if_pos (by omega), if_pos (by omega), if_pos (by omega), hrd, if_neg h3, hw]

end Go.Proofs.YtijbkiajhicooabDoor.PW

namespace Go.Proofs.YtijbkiajhicooabDoor.PW
open Go.RowKit Go.Proofs.YtijbkiajhicooabDoorW.PrintWords Go.Proofs.YtijbkiajhicooabDoorW.PrintLast Go.Proofs.YtijbkiajhicooabDoorW.PrintMore
attribute [local go_sem] max2_int min2_int max_two min_two max_three min_three max_four min_four   -- for this text's walks alone
set_option linter.unusedVariables false
set_option linter.unusedSimpArgs false

/-- The words' pieces. -/
def wordsOf (l : List Int) : List S44 := ((runsOf l).filter fun r => r.f1 == 3).map (·.f0)
theorem runsOf_length (l : List Int) : (runsOf l).length ≤ l.length := by
 have h1 := runs_length (stepsL l) []
 have h2 := stepsFrom_length (strOfNums l) 0
 rw [strOfNums_size] at h2
 unfold runsOf
 unfold stepsL allSteps at h1
 unfold allSteps
 simp only [List.length_nil] at h1
 omega
theorem wordsOf_length (l : List Int) : (wordsOf l).length ≤ l.length := by
 unfold wordsOf
 rw [List.length_map]
 exact Nat.le_trans (List.length_filter_le _ _) (runsOf_length l)
theorem words_all_ev {l : List Int} (hl : l.length ≤ 4398046511103) : Ev (fun k => words_All.f k l) (wordsOf l) := by
 have hr := runsOf_length l
 have h := words_all_l0 (runsOf l) (by omega) (runsOf l).length 0 [] (by omega) (by omega) (by simp)
 have e : words_runs.f l = some (runsOf l) := by unfold words_runs.f; rw [if_pos (by omega)]
 refine Ev.bind (Ev.of_eq fun _ => e) ?_
 exact h
theorem own_some (l : List Int) (hl : l.length ≤ 4398046511103) : galleylaw22_own.f l = some l := by
 unfold galleylaw22_own.f
 rw [Option.bind_some, if_pos (by simp; omega), List.nil_append]
end Go.Proofs.YtijbkiajhicooabDoor.PW
namespace Go.Proofs.YtijbkiajhicooabDoor.Pure
open Go.Proofs.YtijbkiajhicooabDoor.PW Go.RowKit
end Go.Proofs.YtijbkiajhicooabDoor.Pure
namespace Go.Proofs.YtijbkiajhicooabDoor.PW

end Go.Proofs.YtijbkiajhicooabDoor.PW

namespace Go.Proofs.YtijbkiajhicooabDoor.PW
open Go.RowKit Go.Proofs.YtijbkiajhicooabDoorW.PrintWords Go.Proofs.YtijbkiajhicooabDoorW.PrintLast Go.Proofs.YtijbkiajhicooabDoorW.PrintMore
attribute [local go_sem] max2_int min2_int max_two min_two max_three min_three max_four min_four   -- for this text's walks alone
set_option linter.unusedVariables false
set_option linter.unusedSimpArgs false

theorem outside_ev (l : List Int) (a : Int) : words_outside.f l a = some (decide (a < 0 ∨ a > (l.length : Int))) := by
 unfold words_outside.f
 by_cases h : a < 0
 ·rw [if_pos h, decide_eq_true (.inl h)]
 ·rw [if_neg h]
  by_cases g : a > (l.length : Int)
  ·rw [decide_eq_true g, decide_eq_true (.inr g)]
  ·rw [decide_eq_false g, decide_eq_false (by omega)]
end Go.Proofs.YtijbkiajhicooabDoor.PW
namespace Go.Proofs.YtijbkiajhicooabDoor.Pure
open Go.Proofs.YtijbkiajhicooabDoor.PW Go.RowKit
end Go.Proofs.YtijbkiajhicooabDoor.Pure
namespace Go.Proofs.YtijbkiajhicooabDoor.PW

end Go.Proofs.YtijbkiajhicooabDoor.PW

namespace Go.Proofs.YtijbkiajhicooabDoor.PW
open Go.RowKit Go.Proofs.YtijbkiajhicooabDoorW.PrintWords Go.Proofs.YtijbkiajhicooabDoorW.PrintLast Go.Proofs.YtijbkiajhicooabDoorW.PrintMore
attribute [local go_sem] max2_int min2_int max_two min_two max_three min_three max_four min_four   -- for this text's walks alone
set_option linter.unusedVariables false
set_option linter.unusedSimpArgs false

theorem rd_run (rs : List S109) (i : Nat) (h : i < rs.length) : rd_T109 rs (i : Int) = rs[i] := by
 unfold rd_T109
 rw [List.getD_eq_getElem?_getD, Int.toNat_natCast, List.getElem?_eq_getElem h]
 rfl
/-- The first run that ends behind the place, or the last one. -/
def aroundOf (a : Int) : List S109 → Int × Int × Int → Int × Int × Int
 | [], b => b
 | r :: t, _ => if a < r.f0.f1 then (r.f0.f0, r.f0.f1, r.f1) else aroundOf a t (r.f0.f0, r.f0.f1, r.f1)
abbrev with0 (x : Int × Int × Int) : Int × Int × Int × Int := (x.1, x.2.1, x.2.2, 0)
theorem around_l0 (a : Int) (rs : List S109) (hl : rs.length ≤ 4398046511104) : ∀ (n i : Nat) (b : Int × Int × Int), rs.length - i = n → i ≤ rs.length →
  Ev (fun k => words_Around.l0 k a rs (rs.length : Int) (i : Int) b.1 b.2.1 b.2.2) (with0 (aroundOf a (rs.drop i) b)) := by
 intro n
 induction n with
 | zero =>
  intro i b hn hi
  obtain rfl : i = rs.length := by omega
  rw [List.drop_length]
  refine Ev.succ (h := fun _ => some (with0 b)) (Ev.pure _) (fun k => ?_)
  rw [words_Around.l0, if_neg (by omega)]
 | succ n ih =>
  intro i b hn hi
  have hlt : i < rs.length := by omega
  have hw : wrap64 ((i : Int) + 1) = ((i + 1 : Nat) : Int) := by rw [wrap64_small (by omega) (by omega)]; omega
  have c1 : (i : Int) < (rs.length : Int) := by omega
  have c3 : (0 : Int) ≤ (i : Int) := by omega
  have ih1 := fun b => ih (i + 1) b (by omega) (by omega)
  have h1 := rd_run rs i hlt
  rw [List.drop_eq_getElem_cons hlt]
  by_cases g : a < (rs[i]).f0.f1
  ·simp only [aroundOf, if_pos g]
   refine Ev.succ (h := fun _ => some (with0 ((rs[i]).f0.f0, (rs[i]).f0.f1, (rs[i]).f1))) (Ev.pure _) (fun k => ?_)
   rw [words_Around.l0, if_pos c1, if_pos c3, if_pos c1, h1, if_pos g]
  ·simp only [aroundOf, if_neg g]
   refine Ev.succ (ih1 ((rs[i]).f0.f0, (rs[i]).f0.f1, (rs[i]).f1)) (fun k => ?_)
   rw [words_Around.l0, if_pos c1, if_pos c3, if_pos c1, h1, if_neg g, hw]
/-- The answer of Around. -/
def aroundAt (l : List Int) (a : Int) : Int × Int × Int × Int := if a < 0 ∨ a > (l.length : Int) then (0, 0, 0, 2) else with0 (aroundOf a (runsOf l) (0, 0, 0))
theorem words_around_ev {l : List Int} (hl : l.length ≤ 4398046511103) (a : Int) : Ev (fun k => words_Around.f k l a) (aroundAt l a) := by
 refine Ev.bind (Ev.of_eq fun _ => outside_ev l a) ?_
 have hlen := runsOf_length l
 have e : words_runs.f l = some (runsOf l) := by unfold words_runs.f; rw [if_pos (by omega)]
 unfold aroundAt
 by_cases h : a < 0 ∨ a > (l.length : Int)
 ·rw [if_pos h]
  exact Ev.of_eq fun _ => if_pos (decide_eq_true h)
 ·rw [if_neg h]
  refine Ev.congr (Ev.bind (h := fun k t => words_Around.l0 k a t (t.length : Int) 0 0 0 0) (Ev.of_eq fun _ => e) (around_l0 a (runsOf l) (by omega) _ 0 (0, 0, 0) rfl (by omega))) (fun k => ?_)
  exact if_neg (by rw [decide_eq_false h]; decide)
end Go.Proofs.YtijbkiajhicooabDoor.PW
namespace Go.Proofs.YtijbkiajhicooabDoor.Pure
open Go.Proofs.YtijbkiajhicooabDoor.PW Go.RowKit
end Go.Proofs.YtijbkiajhicooabDoor.Pure
namespace Go.Proofs.YtijbkiajhicooabDoor.PW

end Go.Proofs.YtijbkiajhicooabDoor.PW

namespace Go.Proofs.YtijbkiajhicooabDoor.PW
open Go.RowKit Go.Proofs.YtijbkiajhicooabDoorW.PrintWords Go.Proofs.YtijbkiajhicooabDoorW.PrintLast Go.Proofs.YtijbkiajhicooabDoorW.PrintMore
attribute [local go_sem] max2_int min2_int max_two min_two max_three min_three max_four min_four   -- for this text's walks alone
set_option linter.unusedVariables false
set_option linter.unusedSimpArgs false

theorem words_kind_ev (r x : Int) (w : Bool) : Ev (fun k => words_Kind.f k r x w) (kindOf r w) := by
 refine ⟨3, fun k hk => ?_⟩
 obtain ⟨m, rfl⟩ : ∃ m, k = 3 + m := ⟨k - 3, by omega⟩
 induction m with
 | zero => exact words_Kind.is r x w
 | succ m ih => exact words_Kind.mono r x w (3 + m) _ (ih (by omega))
end Go.Proofs.YtijbkiajhicooabDoor.PW
namespace Go.Proofs.YtijbkiajhicooabDoor.Pure
open Go.Proofs.YtijbkiajhicooabDoor.PW Go.RowKit
end Go.Proofs.YtijbkiajhicooabDoor.Pure
namespace Go.Proofs.YtijbkiajhicooabDoor.PW

end Go.Proofs.YtijbkiajhicooabDoor.PW

namespace Go.Proofs.YtijbkiajhicooabDoor.PW
open Go.RowKit Go.Proofs.YtijbkiajhicooabDoorW.PrintWords Go.Proofs.YtijbkiajhicooabDoorW.PrintLast Go.Proofs.YtijbkiajhicooabDoorW.PrintMore
attribute [local go_sem] max2_int min2_int max_two min_two max_three min_three max_four min_four   -- for this text's walks alone
set_option linter.unusedVariables false
set_option linter.unusedSimpArgs false

theorem kindOf_pos (r : Int) (b : Bool) : 1 ≤ kindOf r b := by
 unfold kindOf
 repeat' split
 all_goals decide
theorem insideK_vis {l : List Int} (hb : Bytes l) (hl : l.length ≤ 4398046511104) (p : Nat) (hp : p ≤ l.length) (hv : Vis l p) : insideK l p = 0 := by
 have h1 := edge_floor hb hl p hp p hv (Nat.le_refl _)
 have h2 := insideK_le l p
 unfold floorL at h1
 omega
theorem step_At_ev {l : List Int} (hb : Bytes l) (hl : l.length ≤ 4398046511104) (p : Nat) (hp : p < l.length) (hv : Vis l p) : Ev (fun k => step_At.f k l (p : Int)) ((ofL l p).1, (ofL l p).2.1, (ofL l p).2.2, 0) := by
 have hi := insideK_vis hb hl p (Nat.le_of_lt hp) hv
 refine ⟨9, fun k hk => ?_⟩
 obtain ⟨m, rfl⟩ : ∃ m, k = m + 1 := ⟨k - 1, by omega⟩
 have hin := insideK_ev hb hl p (Nat.le_of_lt hp) m (by omega)
 have c1 : ¬ (p : Int) < 0 := by omega
 have c2 : ¬ (p : Int) ≥ (l.length : Int) := by omega
 show step_At.f (m + 1) l (p : Int) = _
 unfold step_At.f
 rw [if_neg c1, decide_eq_false c2, step_At.j0, if_neg (by decide), hin, Option.bind_some, hi, if_neg (by decide), step_at_ev hb hl p hp, Option.bind_some]
/-- A run: its ends are edges, and all its steps are of its kind. -/
def RunOk (l : List Int) (r : S109) : Prop :=
 ∃ p q : Nat, r.f0.f0 = (p : Int) ∧ r.f0.f1 = (q : Int) ∧ p < q ∧ q ≤ l.length ∧ Vis l p ∧ Vis l q ∧ 1 ≤ r.f1 ∧ ∀ e : Nat, Vis l e → p ≤ e → e < q → kindOf (ofL l e).1 (ofL l e).2.2 = r.f1
/-- Neighbours are of unlike kinds. -/
def Unlike : Int → List S109 → Prop
 | _, [] => True
 | k, r :: t => ¬ r.f1 = k ∧ Unlike r.f1 t
/-- The last run's kind. -/
def lastK : Int → List S109 → Int
 | k, [] => k
 | _, r :: t => lastK r.f1 t
theorem lastK_snoc (r : S109) : ∀ (rs : List S109) (k : Int), lastK k (rs ++ [r]) = r.f1
 | [], _ => rfl
 | x :: t, _ => lastK_snoc r t x.f1
theorem unlike_snoc (r : S109) : ∀ (rs : List S109) (k : Int), Unlike k (rs ++ [r]) ↔ Unlike k rs ∧ ¬ r.f1 = lastK k rs
 | [], k => by simp [Unlike, lastK]
 | x :: t, k => by
  simp only [List.cons_append, Unlike, lastK, unlike_snoc r t x.f1, and_assoc]
theorem one_step {l : List Int} (hb : Bytes l) (hl : l.length ≤ 4398046511104) {p e : Nat} (hp : p < l.length) (hv : Vis l e) (h1 : p ≤ e) (h2 : e < p + widL l p) : e = p := by
 by_cases h : e = p
 ·exact h
 ·have := inside_step hb hl hp (e - p) (by omega) (by omega)
  rw [show p + (e - p) = e by omega, inside_vis hv] at this
  cases this
def RI (l : List Int) (rs : List S109) (p : Nat) : Prop := (∀ r ∈ rs, RunOk l r) ∧ Unlike 0 rs ∧ Chain 0 rs (p : Int)
theorem ri_step {l : List Int} (hb : Bytes l) (hl : l.length ≤ 4398046511103) {rs : List S109} {p : Nat} (hp : p < l.length) (hv : Vis l p) (h : RI l rs p) : RI l (runStep rs ((p : Int), ofL l p)) (p + widL l p) := by
 have hl4 : l.length ≤ 4398046511104 := by omega
 obtain ⟨w1, w4, wl⟩ := widL_pos hb p hl4 hp
 have hw := ofL_wid hb hl4 p hp
 have hv2 := vis_next hb hl4 hp hv
 obtain ⟨h1, h2, h3⟩ := h
 have hcs := chain_step (x := ((p : Int), ofL l p)) h3 rfl (by show 0 < (ofL l p).2.1; omega) (by omega) (by show (p : Int) + (ofL l p).2.1 ≤ _; omega)
 have hc : (p : Int) + (ofL l p).2.1 = ((p + widL l p : Nat) : Int) := by omega
 have hcs' : Chain 0 (runStep rs ((p : Int), ofL l p)) ((p + widL l p : Nat) : Int) := by rw [← hc]; exact hcs
 have e1 : wrap64 ((p : Int) + (ofL l p).2.1) = ((p + widL l p : Nat) : Int) := by rw [hc]; exact wrap64_small (by omega) (by omega)
 have hk := kindOf_pos (ofL l p).1 (ofL l p).2.2
 rcases List.eq_nil_or_concat rs with rfl | ⟨rs', r, rfl⟩
 ·rw [runStep_nil] at hcs' ⊢
  refine ⟨fun r hr => ?_, ⟨?_, trivial⟩, hcs'⟩
  ·obtain rfl := List.mem_singleton.1 hr
   refine ⟨p, p + widL l p, rfl, e1, Nat.lt_add_of_pos_right w1, wl, hv, hv2, hk, fun e he h4 h5 => ?_⟩
   rw [one_step hb hl4 hp he h4 h5]
  ·intro e
   have : kindOf (ofL l p).1 (ofL l p).2.2 = 0 := e
   clear e1 hc hw
   omega
 ·rw [List.concat_eq_append] at h1 h2 h3 hcs' ⊢
  obtain ⟨q0, q1, k1, k2, k3, k4, k5, k6, k7, k8⟩ := h1 r (by simp)
  have hq1 : q1 = p := by
   have := (chain_snoc r rs' 0 (p : Int)).1 h3
   have h9 := this.2.2
   rw [k2] at h9
   clear e1 hc hw hk k7
   omega
  subst hq1
  rw [runStep_snoc] at hcs' ⊢
  by_cases g : r.f1 = kOf ((q1 : Int), ofL l q1)
  ·rw [if_pos g] at hcs' ⊢
   refine ⟨fun y hy => ?_, ?_, hcs'⟩
   ·rcases List.mem_append.1 hy with hy | hy
    ·exact h1 y (by simp [hy])
    ·obtain rfl := List.mem_singleton.1 hy
     refine ⟨q0, q1 + widL l q1, k1, e1, Nat.lt_of_lt_of_le k3 (Nat.le_add_right _ _), wl, k5, hv2, k7, fun e he h4 h5 => ?_⟩
     by_cases h6 : e < q1
     ·exact k8 e he h4 h6
     ·rw [one_step hb hl4 hp he (Nat.le_of_not_lt h6) h5]
      exact g.symm
   ·rw [unlike_snoc] at h2 ⊢
    exact h2
  ·rw [if_neg g] at hcs' ⊢
   refine ⟨fun y hy => ?_, ?_, hcs'⟩
   ·rcases List.mem_append.1 hy with hy | hy
    ·exact h1 y hy
    ·obtain rfl := List.mem_singleton.1 hy
     refine ⟨q1, q1 + widL l q1, rfl, e1, Nat.lt_add_of_pos_right w1, wl, hv, hv2, hk, fun e he h4 h5 => ?_⟩
     rw [one_step hb hl4 hp he h4 h5]
   ·rw [unlike_snoc]
    refine ⟨h2, ?_⟩
    rw [lastK_snoc]
    exact fun e => g e.symm
theorem ri_from {l : List Int} (hb : Bytes l) (hl : l.length ≤ 4398046511103) : ∀ (n p : Nat) (rs : List S109), l.length - p = n → p ≤ l.length → Vis l p → RI l rs p → RI l ((stepsFrom (strOfNums l) p).foldl runStep rs) l.length := by
 intro n
 induction n using Nat.strongRecOn with
 | _ n ih =>
  intro p rs hn hp hv h
  by_cases hlt : p < l.length
  ·have hl4 : l.length ≤ 4398046511104 := by omega
   obtain ⟨w1, w4, wl⟩ := widL_pos hb p hl4 hlt
   rw [sf_cons hb hl4 p hlt, List.foldl_cons]
   exact ih (l.length - (p + widL l p)) (by omega) _ _ rfl wl (vis_next hb hl4 hlt hv) (ri_step hb hl hlt hv h)
  ·obtain rfl : p = l.length := by omega
   rw [sf_nil _ (Nat.le_refl _)]
   exact h
theorem ri_all {l : List Int} (hb : Bytes l) (hl : l.length ≤ 4398046511103) : RI l (runsOf l) l.length :=
 ri_from hb hl l.length 0 [] (by omega) (by omega) (vis_zero l) ⟨(fun r hr => by cases hr), trivial, rfl⟩
theorem around_in (a : Int) (r : S109) (t : List S109) (hr : a < r.f0.f1) : ∀ (D : List S109) (b : Int × Int × Int), (∀ d ∈ D, d.f0.f1 ≤ a) → aroundOf a (D ++ r :: t) b = (r.f0.f0, r.f0.f1, r.f1)
 | [], b, _ => by
  simp only [List.nil_append, aroundOf]
  rw [if_pos hr]
 | d :: D, b, h => by
  have hd := h d (by simp)
  simp only [List.cons_append, aroundOf]
  rw [if_neg (by omega)]
  exact around_in a r t hr D _ (fun x hx => h x (by simp [hx]))
theorem around_end (a : Int) (r : S109) (hr : r.f0.f1 ≤ a) : ∀ (D : List S109) (b : Int × Int × Int), (∀ d ∈ D, d.f0.f1 ≤ a) → aroundOf a (D ++ [r]) b = (r.f0.f0, r.f0.f1, r.f1)
 | [], b, _ => by
  simp only [List.nil_append, aroundOf]
  rw [if_neg (by omega)]
 | d :: D, b, h => by
  have hd := h d (by simp)
  simp only [List.cons_append, aroundOf]
  rw [if_neg (by omega)]
  exact around_end a r hr D _ (fun x hx => h x (by simp [hx]))
theorem chain_le : ∀ (D : List S109) (c e : Int), Chain c D e → c ≤ e ∧ ∀ d ∈ D, d.f0.f1 ≤ e
 | [], c, e, h => ⟨Int.le_of_eq h, fun d hd => by cases hd⟩
 | x :: D, c, e, h => by
  obtain ⟨h1, h2, h3⟩ := h
  obtain ⟨i1, i2⟩ := chain_le D _ _ h3
  refine ⟨by omega, fun d hd => ?_⟩
  rcases List.mem_cons.1 hd with rfl | hd
  ·exact i1
  ·exact i2 d hd
theorem aroundAt_in (l : List Int) (a : Int) (h0 : 0 ≤ a) (h1 : a ≤ (l.length : Int)) : aroundAt l a = with0 (aroundOf a (runsOf l) (0, 0, 0)) := by
 unfold aroundAt
 rw [if_neg (by omega)]
section
variable {l : List Int} (hb : Bytes l) (hl : l.length ≤ 4398046511103)
include hl in
theorem runs_l2 (out : List S44) (kd lo hi : Int) (p wd q : Nat) (hq : q = p + wd) (hql : q ≤ l.length) (rn : Int) (wh : Bool) (har : ∀ i : Nat, p ≤ i → i < q → aroundAt l (i : Int) = (lo, hi, kd, 0)) {v : Bool}
  (h : Ev (fun k => galleylaw22_WordsRuns.l1 k l out kd (q : Int) lo hi) v) : ∀ (n i : Nat), i + n = q → p ≤ i → Ev (fun k => galleylaw22_WordsRuns.l2 k l out kd (p : Int) (i : Int) lo hi rn (wd : Int) wh) v := by
 have hw : wrap64 ((p : Int) + (wd : Int)) = (q : Int) := by rw [wrap64_small (by omega) (by omega)]; omega
 intro n
 induction n with
 | zero =>
  intro i hi' hpi
  have c : ¬ (i : Int) < (q : Int) := by omega
  refine Ev.succ h (fun k => ?_)
  rw [galleylaw22_WordsRuns.l2, hw, if_neg c]
 | succ n ih =>
  intro i hi' hpi
  have c : (i : Int) < (q : Int) := by omega
  have hwi : wrap64 ((i : Int) + 1) = ((i + 1 : Nat) : Int) := by rw [wrap64_small (by omega) (by omega)]; omega
  have ha := har i hpi (by omega)
  have ih1 := ih (i + 1) (by omega) (by omega)
  have hev := words_around_ev hl (i : Int)
  rw [ha] at hev
  refine Ev.succ (h := fun k => (galleylaw22_own.f l).bind fun t => (words_Around.f k t (i : Int)).bind fun b => if b.2.2.2 = 0 then (if (!(b.1 == lo) || (!(b.2.1 == hi))) = true then some false else if b.2.2.1 = kd then galleylaw22_WordsRuns.l2 k l out kd (p : Int) ((i + 1 : Nat) : Int) lo hi rn (wd : Int) wh else some false) else some false) ?_ (fun k => ?_)
  ·refine Ev.bind (Ev.of_eq fun _ => own_some l hl) ?_
   refine Ev.bind hev ?_
   simpa using ih1
  ·rw [galleylaw22_WordsRuns.l2, hw, if_pos c, hwi]
include hb hl in
theorem runs_l1 (out : List S44) (r : S109) (lo hi : Nat) (hlo : r.f0.f0 = (lo : Int)) (hhi : r.f0.f1 = (hi : Int)) (hhl : hi ≤ l.length) (hvh : Vis l hi) (hk : ∀ e : Nat, Vis l e → lo ≤ e → e < hi → kindOf (ofL l e).1 (ofL l e).2.2 = r.f1)
  (har : ∀ i : Nat, lo ≤ i → i < hi → aroundAt l (i : Int) = ((lo : Int), (hi : Int), r.f1, 0)) {v : Bool}
  (h : Ev (fun k => galleylaw22_WordsRuns.l1 k l out r.f1 (hi : Int) (lo : Int) (hi : Int)) v) : ∀ (n p : Nat), hi - p = n → p ≤ hi → lo ≤ p → Vis l p → Ev (fun k => galleylaw22_WordsRuns.l1 k l out r.f1 (p : Int) (lo : Int) (hi : Int)) v := by
 have hl4 : l.length ≤ 4398046511104 := by omega
 intro n
 induction n using Nat.strongRecOn with
 | _ n ih =>
  intro p hn hp hlp hv
  by_cases hlt : p < hi
  ·have hpl : p < l.length := by omega
   obtain ⟨w1, w4, wl⟩ := widL_pos hb p hl4 hpl
   have hr : p + widL l p ≤ hi := by
    have := reach_vis hb hl4 hi hhl hvh _ p rfl hp
    cases this with
    | here => omega
    | step _ _ h => exact h.le
   have hn2 : hi - (p + widL l p) < n := by omega
   have ih1 := ih _ hn2 (p + widL l p) rfl hr (by omega) (vis_next hb hl4 hpl hv)
   have hl2 := runs_l2 hl out r.f1 (lo : Int) (hi : Int) p (widL l p) (p + widL l p) rfl wl (ofL l p).1 (ofL l p).2.2 (fun i h1 h2 => har i (by omega) (by omega)) ih1 (widL l p) p rfl (Nat.le_refl _)
   have c1 : (p : Int) < (hi : Int) := by omega
   have c2 : ¬ (widL l p : Int) < 1 := by omega
   have c3 : ¬ ((p + widL l p : Nat) : Int) > (hi : Int) := by omega
   have hwp : wrap64 ((p : Int) + (widL l p : Int)) = ((p + widL l p : Nat) : Int) := by rw [wrap64_small (by omega) (by omega)]; omega
   have hAt := step_At_ev hb hl4 p hpl hv
   have hwid := ofL_wid hb hl4 p hpl
   rw [hwid] at hAt
   have hkk := words_kind_ev (ofL l p).1 (widL l p : Int) (ofL l p).2.2
   rw [hk p hv hlp hlt] at hkk
   refine Ev.succ (h := fun k => (galleylaw22_own.f l).bind fun t => (step_At.f k t (p : Int)).bind fun b => if b.2.2.2 = 0 then (if b.2.1 < 1 then galleylaw22_WordsRuns.j3 k l out r.f1 (p : Int) true (lo : Int) (hi : Int) b.1 b.2.1 b.2.2.1 else (words_Kind.f k b.1 b.2.1 b.2.2.1).bind fun t216 => if t216 = r.f1 then galleylaw22_WordsRuns.j3 k l out r.f1 (p : Int) (decide ((wrap64 ((p : Int) + b.2.1)) > (hi : Int))) (lo : Int) (hi : Int) b.1 b.2.1 b.2.2.1 else galleylaw22_WordsRuns.j3 k l out r.f1 (p : Int) true (lo : Int) (hi : Int) b.1 b.2.1 b.2.2.1) else galleylaw22_WordsRuns.j3 k l out r.f1 (p : Int) true (lo : Int) (hi : Int) b.1 b.2.1 b.2.2.1) ?_ (fun k => ?_)
   ·refine Ev.bind (Ev.of_eq fun _ => own_some l hl) ?_
    refine Ev.bind hAt ?_
    simp only [if_true, if_neg c2]
    refine Ev.bind hkk ?_
    simp only [if_true, hwp, decide_eq_false c3]
    refine Ev.succ hl2 (fun k => ?_)
    rw [galleylaw22_WordsRuns.j3, if_neg (by decide)]
   ·rw [galleylaw22_WordsRuns.l1, if_pos c1]
  ·obtain rfl : p = hi := by omega
   exact h
end
/-- The words among runs. -/
def hits3 (rs : List S109) : List S44 := (rs.filter fun r => r.f1 == 3).map (·.f0)
theorem hits3_snoc (D : List S109) (r : S109) : hits3 (D ++ [r]) = if r.f1 = 3 then hits3 D ++ [r.f0] else hits3 D := by
 unfold hits3
 rw [List.filter_append, List.map_append, List.filter_cons, List.filter_nil]
 by_cases h : r.f1 = 3
 ·rw [if_pos (by simpa using h), if_pos h]; rfl
 ·rw [if_neg (by simpa using h), if_neg h]; simp
theorem chain_snoc_mk {D : List S109} {r : S109} {c m : Int} (h : Chain c D m) (h1 : r.f0.f0 = m) (h2 : m < r.f0.f1) : Chain c (D ++ [r]) r.f0.f1 := by
 rw [chain_snoc, h1]
 exact ⟨h, h2, rfl⟩
theorem runs_l0 {l : List Int} (hb : Bytes l) (hl : l.length ≤ 4398046511103) : ∀ (R D : List S109) (a : Nat), runsOf l = D ++ R → Chain 0 D (a : Int) → Chain (a : Int) R (l.length : Int) → (∀ r ∈ R, RunOk l r) → Unlike (lastK 0 D) R → D.length ≤ a → (0 < a → D ≠ []) →
  Ev (fun k => galleylaw22_WordsRuns.l0 k l (hits3 D) (lastK 0 D) (a : Int)) true := by
 have hl4 : l.length ≤ 4398046511104 := by omega
 have hwl := wordsOf_length l
 intro R
 induction R with
 | nil =>
  intro D a hD h1 h2 h3 h4 h5 h6
  have ha : a = l.length := by
   have : (a : Int) = (l.length : Int) := h2
   omega
  subst ha
  rw [List.append_nil] at hD
  have hwo : wordsOf l = hits3 D := by unfold wordsOf hits3; rw [hD]
  have hj : Ev (fun k => galleylaw22_WordsRuns.j5 k l (hits3 D) false) true := by
   rw [← hwo]
   refine Ev.succ (h := fun k => (galleylaw22_own.f l).bind fun t => (words_All.f k t).bind fun u => (galleyref22_SameHits.f k u (wordsOf l)).bind fun v => some v) ?_ (fun k => ?_)
   ·refine Ev.bind (Ev.of_eq fun _ => own_some l hl) ?_
    refine Ev.bind (words_all_ev hl) ?_
    exact Ev.bind (same_hits (wordsOf l) (by omega)) (Ev.pure true)
   ·rw [galleylaw22_WordsRuns.j5, if_neg (by decide)]
  have hev := words_around_ev hl (l.length : Int)
  rw [aroundAt_in l _ (by omega) (Int.le_refl _), hD] at hev
  refine Ev.succ (Ev.bind (h := fun k t225 => (words_Around.f k t225 (l.length : Int)).bind fun bt228 => (if bt228.2.2.2 = 0 then (if (l.length : Int) = 0 then (if (!(bt228.1 == 0) || (!(bt228.2.1 == 0))) = true then (galleylaw22_WordsRuns.j5 k l (hits3 D) true) else (if bt228.2.2.1 = 0 then (if (l.length : Int) > 0 then (if bt228.2.1 = (l.length : Int) then (galleylaw22_WordsRuns.j5 k l (hits3 D) (bt228.2.2.1 != lastK 0 D)) else (galleylaw22_WordsRuns.j5 k l (hits3 D) true)) else (galleylaw22_WordsRuns.j5 k l (hits3 D) false)) else (galleylaw22_WordsRuns.j5 k l (hits3 D) true))) else (if (l.length : Int) > 0 then (if bt228.2.1 = (l.length : Int) then (galleylaw22_WordsRuns.j5 k l (hits3 D) (bt228.2.2.1 != lastK 0 D)) else (galleylaw22_WordsRuns.j5 k l (hits3 D) true)) else (galleylaw22_WordsRuns.j5 k l (hits3 D) false))) else (galleylaw22_WordsRuns.j5 k l (hits3 D) true))) (Ev.of_eq fun _ => own_some l hl) (Ev.bind hev ?_)) (fun k => ?_)
  rotate_left
  ·rw [galleylaw22_WordsRuns.l0, if_neg (by omega)]
  ·rcases List.eq_nil_or_concat D with rfl | ⟨D', r, rfl⟩
   ·have hz : l.length = 0 := by
     have : (0 : Int) = (l.length : Int) := h1
     omega
    simpa [aroundOf, lastK, hz] using hj
   ·rw [List.concat_eq_append] at h1 h6 hj ⊢
    have hc := (chain_snoc r D' 0 (l.length : Int)).1 h1
    have hle := (chain_le D' 0 r.f0.f0 hc.1)
    have hpos : 0 < (l.length : Int) := by have := hc.2; omega
    have hne : ¬ (l.length : Int) = 0 := by omega
    rw [around_end (l.length : Int) r (Int.le_of_eq hc.2.2) D' _ (fun d hd => by have := hle.2 d hd; have := hc.2; omega), lastK_snoc]
    simp only [if_true, if_neg hne, hc.2.2]
    have hpos : (l.length : Int) > 0 := hpos
    simp only [if_pos hpos]
    simpa using hj
 | cons r R ih =>
  intro D a hD h1 h2 h3 h4 h5 h6
  obtain ⟨p, q, k1, k2, k3, k4, k5, k6, k7, k8⟩ := h3 r (by simp)
  obtain ⟨g1, g2, g3⟩ := h2
  obtain ⟨u1, u2⟩ := h4
  have hpa : p = a := by omega
  subst hpa
  have hD2 : runsOf l = (D ++ [r]) ++ R := by rw [hD]; simp
  have hle := (chain_le D 0 (p : Int) h1).2
  have har : ∀ i : Nat, p ≤ i → i < q → aroundAt l (i : Int) = ((p : Int), (q : Int), r.f1, 0) := fun i hi1 hi2 => by
   rw [aroundAt_in l _ (by omega) (by omega), hD, around_in (i : Int) r R (by omega) D _ (fun d hd => by have := hle d hd; omega), k1, k2]
  have hch2 := chain_snoc_mk h1 g1 g2
  rw [k2] at hch2 g3
  have hrec := ih (D ++ [r]) q hD2 hch2 g3 (fun x hx => h3 x (by simp [hx])) (by rw [lastK_snoc]; exact u2) (by simp; omega) (fun _ => by simp)
  rw [lastK_snoc, hits3_snoc] at hrec
  have hol : (hits3 D).length < 8796093022208 := by
   have : (hits3 D).length ≤ D.length := by unfold hits3; rw [List.length_map]; exact List.length_filter_le _ _
   omega
  have c0 : ¬ (q : Int) < (q : Int) := by omega
  have hafter : Ev (fun k => galleylaw22_WordsRuns.l1 k l (hits3 D) r.f1 (q : Int) (p : Int) (q : Int)) true := by
   by_cases g : r.f1 = 3
   ·rw [if_pos g] at hrec
    have hr0 : r.f0 = ⟨(p : Int), (q : Int)⟩ := by rw [← k1, ← k2]
    rw [hr0] at hrec
    refine Ev.succ hrec (fun k => ?_)
    rw [galleylaw22_WordsRuns.l1, if_neg c0, if_pos g, if_pos hol]
   ·rw [if_neg g] at hrec
    refine Ev.succ hrec (fun k => ?_)
    rw [galleylaw22_WordsRuns.l1, if_neg c0, if_neg g]
  have hl1 := runs_l1 hb hl (hits3 D) r p q k1 k2 k4 k6 k8 har hafter (q - p) p rfl (Nat.le_of_lt k3) (Nat.le_refl _) k5
  have c1 : (p : Int) < (l.length : Int) := by omega
  have c2 : ¬ (q : Int) ≤ (p : Int) := by omega
  have c3 : ¬ (q : Int) > (l.length : Int) := by omega
  have hkk : (r.f1 == lastK 0 D) = false := by simpa using u1
  have hev := words_around_ev hl (p : Int)
  rw [har p (Nat.le_refl _) k3] at hev
  refine Ev.succ (Ev.bind (h := fun k t197 => (words_Around.f k t197 (p : Int)).bind fun bt200 => (if bt200.2.2.2 = 0 then (if bt200.1 = (p : Int) then (if bt200.2.1 ≤ (p : Int) then (galleylaw22_WordsRuns.j1 k l (hits3 D) bt200.2.2.1 true bt200.1 bt200.2.1) else (if bt200.2.1 > (l.length : Int) then (galleylaw22_WordsRuns.j1 k l (hits3 D) bt200.2.2.1 true bt200.1 bt200.2.1) else (galleylaw22_WordsRuns.j1 k l (hits3 D) bt200.2.2.1 (bt200.2.2.1 == lastK 0 D) bt200.1 bt200.2.1))) else (galleylaw22_WordsRuns.j1 k l (hits3 D) bt200.2.2.1 true bt200.1 bt200.2.1)) else (galleylaw22_WordsRuns.j1 k l (hits3 D) bt200.2.2.1 true bt200.1 bt200.2.1))) (Ev.of_eq fun _ => own_some l hl) (Ev.bind hev ?_)) (fun k => ?_)
  rotate_left
  ·rw [galleylaw22_WordsRuns.l0, if_pos c1]
  ·simp only [if_true, if_neg c2, if_neg c3, hkk]
   refine Ev.succ hl1 (fun k => ?_)
   rw [galleylaw22_WordsRuns.j1, if_neg (by decide)]
end Go.Proofs.YtijbkiajhicooabDoor.PW
namespace Go.Proofs.YtijbkiajhicooabDoor.Pure
open Go.Proofs.YtijbkiajhicooabDoor.PW Go.RowKit
theorem WordsRuns (l0 : List Int) (hl : l0.length ≤ 1048576) (hw : ∀ x ∈ l0, (Lit.int .u8 x).wf = true) : ∃ k, galleylaw22_WordsRuns.f k l0 = some true := by
 have hb := bytes_of_wf hw
 have hl3 : l0.length ≤ 4398046511103 := by omega
 obtain ⟨h1, h2, h3⟩ := ri_all hb hl3
 refine Ev.some (Ev.bind (Ev.of_eq fun _ => rfl) ?_)
 exact runs_l0 hb hl3 (runsOf l0) [] 0 rfl rfl h3 h1 h2 (Nat.le_refl _) (fun h => absurd h (by decide))
end Go.Proofs.YtijbkiajhicooabDoor.Pure
namespace Go.Proofs.YtijbkiajhicooabDoor.PW

end Go.Proofs.YtijbkiajhicooabDoor.PW

