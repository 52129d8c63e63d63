-- Written by merge.py, a program of this session's: PureDecode PureEdges PureSame PureSteps PureOf PureAll PureKind PureOf22 PureRunsT PureRuns22 PureWAll PureWordsAll PureSlice PureWordsGo PureWordsAround PureLines PureColA PureFloor PureColC PureWordsColumns PureWrapA PureWrapB
import Derived.Lib.Bytes
import Derived.Test.YtijbkiajhicooaaDoorWordsOwnM2
import Derived.Test.YtijbkiajhicooaaDoorWordsOwnM5
import Derived.Test.YtijbkiajhicooaaDoorWordsOwnM6
import Derived.Test.YtijbkiajhicooaaDoorWordsOwnM7
import Derived.Test.YtijbkiajhicooaaDoorWordsOwnM3
import Derived.Test.YtijbkiajhicooaaDoorWordsOwnM4
namespace Go.Proofs.YtijbkiajhicooaaDoor.PW
open Go.RowKit Go.Proofs.YtijbkiajhicooaaDoorW.PrintWords Go.Proofs.YtijbkiajhicooaaDoorW.PrintLast Go.Proofs.YtijbkiajhicooaaDoorW.PrintMore
attribute [local go_sem] max2_int min2_int max_two min_two max_three min_three max_four min_four   -- for this text's walks alone
set_option linter.unusedVariables false
set_option linter.unusedSimpArgs false

def Bytes (l : List Int) : Prop := ∀ x ∈ l, 0 ≤ x ∧ x ≤ 255
theorem bytes_of_wf {l : List Int} (h : ∀ x ∈ l, (Lit.int .u8 x).wf = true) : Bytes l := fun x hx => by
 have := h x hx
 simp [Lit.wf] at this
 exact ⟨this.1, this.2⟩
theorem Bytes.drop {l : List Int} (h : Bytes l) (n : Nat) : Bytes (l.drop n) := fun x hx => h x (List.mem_of_mem_drop hx)
theorem rd_byte {l : List Int} (h : Bytes l) (p : Int) : 0 ≤ rd l p ∧ rd l p ≤ 255 := by
 unfold rd
 rw [List.getD_eq_getElem?_getD]
 cases hg : l[p.toNat]? with
 | none => exact ⟨Int.le_refl _, by decide⟩
 | some x => exact h x (List.mem_of_getElem? hg)
theorem wrap64_small {n : Int} (h0 : -9223372036854775808 ≤ n) (h1 : n ≤ 9223372036854775807) : wrap64 n = n := by unfold wrap64; omega
theorem atI_in {l : List Int} (hb : Bytes l) (p : Nat) (h : p < l.length) : atI l (p : Int) = l.getD p 0 ∧ 0 ≤ l.getD p 0 ∧ l.getD p 0 ≤ 255 := by
 have h1 := rd_byte hb (p : Int)
 have e : rd l (p : Int) = l.getD p 0 := by unfold rd; simp
 rw [e] at h1
 unfold atI
 rw [if_neg (by omega), e, wrap64_small (by omega) (by omega)]
 exact ⟨rfl, h1⟩
theorem atI_out (l : List Int) (p : Int) (h : p < 0 ∨ (l.length : Int) ≤ p) : atI l p = -1 := by
 unfold atI
 rw [if_pos (by omega)]
/-- The byte that decoding reads. -/
theorem getB {l : List Int} (hb : Bytes l) (p : Nat) (h : p < l.length) : (((strOfNums l).get! p).toNat : Int) = atI l (p : Int) := by
 obtain ⟨e, h0, h1⟩ := atI_in hb p h
 rw [e]
 have hg : l.getD p 0 = l[p] := by simp [List.getD, h]
 have : (strOfNums l).get! p = UInt8.ofNat (l[p]).toNat := by
  simp [ByteArray.get!, strOfNums, getElem!_def, h]
 rw [this, hg]
 rw [hg] at h0 h1
 simp
 omega
/-- Decoding, by the bytes at the place and behind it (-1: none). -/
def decV (x y z w : Int) : Int × Nat :=
 if x < 128 then (x, 1)
 else if x / 32 = 6 ∧ y / 64 = 2 then (if x % 32 * 64 + y % 64 ≥ 128 then (x % 32 * 64 + y % 64, 2) else (65533, 1))
 else if x / 16 = 14 ∧ y / 64 = 2 ∧ z / 64 = 2 then
  (if x % 16 * 4096 + y % 64 * 64 + z % 64 ≥ 2048 ∧ ¬ (55296 ≤ x % 16 * 4096 + y % 64 * 64 + z % 64 ∧ x % 16 * 4096 + y % 64 * 64 + z % 64 < 57344) then (x % 16 * 4096 + y % 64 * 64 + z % 64, 3) else (65533, 1))
 else if x / 8 = 30 ∧ y / 64 = 2 ∧ z / 64 = 2 ∧ w / 64 = 2 then
  (if x % 8 * 262144 + y % 64 * 4096 + z % 64 * 64 + w % 64 ≥ 65536 ∧ x % 8 * 262144 + y % 64 * 4096 + z % 64 * 64 + w % 64 ≤ 1114111 then (x % 8 * 262144 + y % 64 * 4096 + z % 64 * 64 + w % 64, 4) else (65533, 1))
 else (65533, 1)
theorem contB {l : List Int} (hb : Bytes l) (p : Nat) : (decide (p < (strOfNums l).size) && ((strOfNums l).get! p).toNat / 64 == 2) = decide (atI l (p : Int) / 64 = 2) := by
 rw [strOfNums_size]
 by_cases h : p < l.length
 ·have e := getB hb p h
  rw [decide_eq_true h, Bool.true_and, ← e]
  have : ((((strOfNums l).get! p).toNat : Int) / 64 = 2) ↔ (((strOfNums l).get! p).toNat / 64 = 2) := by omega
  rw [Bool.eq_iff_iff]
  simp only [beq_iff_eq, decide_eq_true_eq]
  exact this.symm
 ·rw [decide_eq_false h, Bool.false_and, atI_out l _ (by omega)]
  rfl
set_option maxRecDepth 100000 in
set_option maxHeartbeats 400000 in
theorem decode_int {l : List Int} (hb : Bytes l) (p : Nat) (h : p < l.length) :
  (((Utf8.decode (strOfNums l) p).1 : Int), (Utf8.decode (strOfNums l) p).2) = decV (atI l (p : Int)) (atI l (p + 1 : Nat)) (atI l (p + 2 : Nat)) (atI l (p + 3 : Nat)) := by
 have e0 := getB hb p h
 obtain ⟨_, x0, x1⟩ := atI_in hb p h
 rw [← (atI_in hb p h).1] at x0 x1
 have c1 := contB hb (p + 1)
 have c2 := contB hb (p + 2)
 have c3 := contB hb (p + 3)
 have ey : ∀ q, atI l (q : Nat) / 64 = 2 → (((strOfNums l).get! q).toNat : Int) = atI l (q : Nat) := fun q hq => by
  by_cases hl : q < l.length
  ·exact getB hb q hl
  ·rw [atI_out l _ (by omega)] at hq
   omega
 have e1 := ey (p + 1)
 have e2 := ey (p + 2)
 have e3 := ey (p + 3)
 unfold Utf8.decode decV
 simp only [Nat.add_zero]
 rw [c1, c2, c3]
 clear c1 c2 c3 ey
 obtain ⟨x, hx⟩ : ∃ x, atI l (p : Int) = x := ⟨_, rfl⟩
 obtain ⟨y, hy⟩ : ∃ x, atI l (p + 1 : Nat) = x := ⟨_, rfl⟩
 obtain ⟨z, hz⟩ : ∃ x, atI l (p + 2 : Nat) = x := ⟨_, rfl⟩
 obtain ⟨v, hv⟩ : ∃ x, atI l (p + 3 : Nat) = x := ⟨_, rfl⟩
 obtain ⟨b0, hb0⟩ : ∃ b, ((strOfNums l).get! p).toNat = b := ⟨_, rfl⟩
 obtain ⟨b1, hb1⟩ : ∃ b, ((strOfNums l).get! (p + 1)).toNat = b := ⟨_, rfl⟩
 obtain ⟨b2, hb2⟩ : ∃ b, ((strOfNums l).get! (p + 2)).toNat = b := ⟨_, rfl⟩
 obtain ⟨b3, hb3⟩ : ∃ b, ((strOfNums l).get! (p + 3)).toNat = b := ⟨_, rfl⟩
 rw [hx] at x0 x1 e0
 rw [hy] at e1
 rw [hz] at e2
 rw [hv] at e3
 rw [hb0] at e0
 rw [hb1] at e1
 rw [hb2] at e2
 rw [hb3] at e3
 simp only [hx, hy, hz, hv, hb0, hb1, hb2, hb3]
 clear hx hy hz hv hb0 hb1 hb2 hb3
 by_cases h0 : b0 < 128
 ·rw [if_pos h0, if_pos (by omega)]
  simp [e0]
 rw [if_neg h0, if_neg (show ¬ x < 128 by omega)]
 by_cases h1 : x / 32 = 6 ∧ y / 64 = 2
 ·have g1 := e1 h1.2
  rw [if_pos h1, if_pos (by simp; omega)]
  by_cases h2 : x % 32 * 64 + y % 64 ≥ 128
  ·rw [if_pos h2, if_pos (by omega)]
   simp
   omega
  ·rw [if_neg h2, if_neg (by omega)]
   simp [Utf8.runeError]
 rw [if_neg h1, if_neg (by simp; omega)]
 by_cases h3 : x / 16 = 14 ∧ y / 64 = 2 ∧ z / 64 = 2
 ·have g1 := e1 h3.2.1
  have g2 := e2 h3.2.2
  rw [if_pos h3, if_pos (by simp; omega)]
  by_cases h4 : x % 16 * 4096 + y % 64 * 64 + z % 64 ≥ 2048 ∧ ¬ (55296 ≤ x % 16 * 4096 + y % 64 * 64 + z % 64 ∧ x % 16 * 4096 + y % 64 * 64 + z % 64 < 57344)
  ·rw [if_pos h4, if_pos (by simp [Utf8.valid]; omega)]
   simp
   omega
  ·rw [if_neg h4, if_neg (by simp [Utf8.valid]; omega)]
   simp [Utf8.runeError]
 rw [if_neg h3, if_neg (by simp; omega)]
 by_cases h5 : x / 8 = 30 ∧ y / 64 = 2 ∧ z / 64 = 2 ∧ v / 64 = 2
 ·have g1 := e1 h5.2.1
  have g2 := e2 h5.2.2.1
  have g3 := e3 h5.2.2.2
  rw [if_pos h5, if_pos (by simp; omega)]
  by_cases h6 : x % 8 * 262144 + y % 64 * 4096 + z % 64 * 64 + v % 64 ≥ 65536 ∧ x % 8 * 262144 + y % 64 * 4096 + z % 64 * 64 + v % 64 ≤ 1114111
  ·rw [if_pos h6, if_pos (by simp [Utf8.valid]; omega)]
   simp
   omega
  ·rw [if_neg h6, if_neg (by simp [Utf8.valid]; omega)]
   simp [Utf8.runeError]
 rw [if_neg h5, if_neg (by simp; omega)]
 simp [Utf8.runeError]
def isOne (x : Int) : Prop := 0 ≤ x ∧ x ≤ 127
def isTwo (x y : Int) : Prop := 194 ≤ x ∧ x ≤ 223 ∧ 128 ≤ y ∧ y ≤ 191
def isThree (x y z : Int) : Prop := 128 ≤ z ∧ z ≤ 191 ∧ ((x = 224 ∧ 160 ≤ y ∧ y ≤ 191) ∨ (225 ≤ x ∧ x ≤ 236 ∧ 128 ≤ y ∧ y ≤ 191) ∨ (x = 237 ∧ 128 ≤ y ∧ y ≤ 159) ∨ (238 ≤ x ∧ x ≤ 239 ∧ 128 ≤ y ∧ y ≤ 191))
def isFour (x y z w : Int) : Prop := 128 ≤ z ∧ z ≤ 191 ∧ 128 ≤ w ∧ w ≤ 191 ∧ ((x = 240 ∧ 144 ≤ y ∧ y ≤ 191) ∨ (241 ≤ x ∧ x ≤ 243 ∧ 128 ≤ y ∧ y ≤ 191) ∨ (x = 244 ∧ 128 ≤ y ∧ y ≤ 143))
theorem longOf_cases (x y z w : Int) : (isOne x ∧ longOf x y z w = 1) ∨ (isTwo x y ∧ longOf x y z w = 2) ∨ (isThree x y z ∧ longOf x y z w = 3) ∨ (isFour x y z w ∧ longOf x y z w = 4) ∨
  (¬ isOne x ∧ ¬ isTwo x y ∧ ¬ isThree x y z ∧ ¬ isFour x y z w ∧ longOf x y z w = 0) := by
 have e1 : (inB x 0 127 = true) ↔ isOne x := by simp [inB, isOne]
 have e2 : (inB x 194 223 && inB y 128 191) = true ↔ isTwo x y := by simp [inB, isTwo]; omega
 have e3 : (inB z 128 191 && three x y) = true ↔ isThree x y z := by simp [inB, isThree, three]; omega
 have e4 : (inB z 128 191 && inB w 128 191 && four x y) = true ↔ isFour x y z w := by simp [inB, isFour, four]; omega
 unfold longOf
 by_cases h1 : isOne x
 ·exact .inl ⟨h1, by rw [if_pos (e1.2 h1)]⟩
 rw [if_neg (fun h => h1 (e1.1 h))]
 by_cases h2 : isTwo x y
 ·exact .inr (.inl ⟨h2, by rw [if_pos (e2.2 h2)]⟩)
 rw [if_neg (fun h => h2 (e2.1 h))]
 by_cases h3 : isThree x y z
 ·exact .inr (.inr (.inl ⟨h3, by rw [if_pos (e3.2 h3)]⟩))
 rw [if_neg (fun h => h3 (e3.1 h))]
 by_cases h4 : isFour x y z w
 ·exact .inr (.inr (.inr (.inl ⟨h4, by rw [if_pos (e4.2 h4)]⟩)))
 rw [if_neg (fun h => h4 (e4.1 h))]
 exact .inr (.inr (.inr (.inr ⟨h1, h2, h3, h4, rfl⟩)))
/-- The rune of an encoding. -/
def runeV (x y z w : Int) : Int := if longOf x y z w = 1 then x else if longOf x y z w = 2 then x % 32 * 64 + y % 64 else if longOf x y z w = 3 then x % 16 * 4096 + y % 64 * 64 + z % 64 else x % 8 * 262144 + y % 64 * 4096 + z % 64 * 64 + w % 64
theorem decV_long (x y z w : Int) (hx0 : 0 ≤ x) (hx1 : x ≤ 255) (hy : y ≤ 255) (hz : z ≤ 255) (hw : w ≤ 255) (hy0 : -1 ≤ y) (hz0 : -1 ≤ z) (hw0 : -1 ≤ w) :
  (longOf x y z w = 0 → decV x y z w = (65533, 1) ∧ ¬ (x = 239 ∧ y = 191 ∧ z = 189)) ∧
  (longOf x y z w ≠ 0 → decV x y z w = (runeV x y z w, (longOf x y z w).toNat) ∧ (runeV x y z w = 65533 ↔ (x = 239 ∧ y = 191 ∧ z = 189))) := by
 rcases longOf_cases x y z w with ⟨h, e⟩ | ⟨h, e⟩ | ⟨h, e⟩ | ⟨h, e⟩ | ⟨h1, h2, h3, h4, e⟩
 ·refine ⟨fun h0 => by omega, fun _ => ?_⟩
  unfold isOne at h
  have hr : runeV x y z w = x := by simp [runeV, e]
  rw [hr, e]
  unfold decV
  rw [if_pos (by omega)]
  exact ⟨rfl, by omega⟩
 ·refine ⟨fun h0 => by omega, fun _ => ?_⟩
  unfold isTwo at h
  have hr : runeV x y z w = x % 32 * 64 + y % 64 := by simp [runeV, e]
  rw [hr, e]
  unfold decV
  rw [if_neg (by omega), if_pos (by omega), if_pos (by omega)]
  exact ⟨rfl, by omega⟩
 ·refine ⟨fun h0 => by omega, fun _ => ?_⟩
  unfold isThree at h
  have hr : runeV x y z w = x % 16 * 4096 + y % 64 * 64 + z % 64 := by simp [runeV, e]
  rw [hr, e]
  unfold decV
  rw [if_neg (by omega), if_neg (by omega), if_pos (by omega), if_pos (by omega)]
  exact ⟨rfl, by omega⟩
 ·refine ⟨fun h0 => by omega, fun _ => ?_⟩
  unfold isFour at h
  have hr : runeV x y z w = x % 8 * 262144 + y % 64 * 4096 + z % 64 * 64 + w % 64 := by simp [runeV, e]
  rw [hr, e]
  unfold decV
  rw [if_neg (by omega), if_neg (by omega), if_neg (by omega), if_pos (by omega), if_pos (by omega)]
  exact ⟨rfl, by omega⟩
 ·refine ⟨fun _ => ?_, fun h0 => absurd e h0⟩
  unfold isOne at h1
  unfold isTwo at h2
  unfold isThree at h3
  unfold isFour at h4
  refine ⟨?_, by omega⟩
  unfold decV
  rw [if_neg (by omega)]
  by_cases g1 : x / 32 = 6 ∧ y / 64 = 2
  ·rw [if_pos g1, if_neg (by omega)]
  rw [if_neg g1]
  by_cases g2 : x / 16 = 14 ∧ y / 64 = 2 ∧ z / 64 = 2
  ·rw [if_pos g2, if_neg (by omega)]
  rw [if_neg g2]
  by_cases g3 : x / 8 = 30 ∧ y / 64 = 2 ∧ z / 64 = 2 ∧ w / 64 = 2
  ·rw [if_pos g3, if_neg (by omega)]
  rw [if_neg g3]
theorem strOfNums_drop (l : List Int) (p : Nat) : (strOfNums l).extract p (strOfNums l).size = strOfNums (l.drop p) := by
 apply ByteArray.ext
 rw [ByteArray.data_extract]
 apply Array.ext'
 rw [Array.toList_extract, strOfNums_size]
 simp only [strOfNums, List.extract_eq_take_drop]
 rw [List.map_drop]
 apply List.take_of_length_le
 simp
theorem atI_drop (l : List Int) (p q : Nat) : atI (l.drop p) (q : Int) = atI l (p + q : Nat) := by
 unfold atI rd
 simp only [List.length_drop, Int.toNat_natCast, List.getD_eq_getElem?_getD, List.getElem?_drop]
 by_cases h : p + q < l.length
 ·rw [if_neg (by omega), if_neg (by omega)]
 ·rw [if_pos (by omega), if_pos (by omega)]
theorem encode_size (r : Int) (h0 : 0 ≤ r) (h1 : r < 55296 ∨ (57344 ≤ r ∧ r ≤ 1114111)) : (Utf8.encode r).size = if r < 128 then 1 else if r < 2048 then 2 else if r < 65536 then 3 else 4 := by
 have hv : Utf8.valid r = true := by simp [Utf8.valid]; omega
 unfold Utf8.encode
 simp only [hv, if_true]
 by_cases g1 : r < 128
 ·rw [if_pos g1, if_pos (by omega)]; rfl
 rw [if_neg g1, if_neg (by omega)]
 by_cases g2 : r < 2048
 ·rw [if_pos g2, if_pos (by omega)]; rfl
 rw [if_neg g2, if_neg (by omega)]
 by_cases g3 : r < 65536
 ·rw [if_pos g3, if_pos (by omega)]; rfl
 rw [if_neg g3, if_neg (by omega)]; rfl
theorem runeV_size (x y z w : Int) (hx0 : 0 ≤ x) (hx1 : x ≤ 255) (hy : y ≤ 255) (hz : z ≤ 255) (hw : w ≤ 255) (h : longOf x y z w ≠ 0) : ((Utf8.encode (runeV x y z w)).size : Int) = longOf x y z w := by
 rcases longOf_cases x y z w with ⟨h, e⟩ | ⟨h, e⟩ | ⟨h, e⟩ | ⟨h, e⟩ | ⟨h1, h2, h3, h4, e⟩
 ·have hr : runeV x y z w = x := by simp [runeV, e]
  unfold isOne at h
  rw [hr, e, encode_size _ (by omega) (by omega), if_pos (by omega)]; rfl
 ·have hr : runeV x y z w = x % 32 * 64 + y % 64 := by simp [runeV, e]
  unfold isTwo at h
  rw [hr, e, encode_size _ (by omega) (by omega), if_neg (by omega), if_pos (by omega)]; rfl
 ·have hr : runeV x y z w = x % 16 * 4096 + y % 64 * 64 + z % 64 := by simp [runeV, e]
  unfold isThree at h
  rw [hr, e, encode_size _ (by omega) (by omega), if_neg (by omega), if_neg (by omega), if_pos (by omega)]; rfl
 ·have hr : runeV x y z w = x % 8 * 262144 + y % 64 * 4096 + z % 64 * 64 + w % 64 := by simp [runeV, e]
  unfold isFour at h
  rw [hr, e, encode_size _ (by omega) (by omega), if_neg (by omega), if_neg (by omega), if_neg (by omega)]; rfl
 ·exact absurd e h
theorem atI_range {l : List Int} (hb : Bytes l) (p : Nat) : -1 ≤ atI l (p : Int) ∧ atI l (p : Int) ≤ 255 := by
 by_cases h : p < l.length
 ·obtain ⟨e, h0, h1⟩ := atI_in hb p h
  rw [e]; omega
 ·rw [atI_out l _ (by omega)]; omega
theorem hasFD_int {l : List Int} (hb : Bytes l) : hasFD (strOfNums l) = true ↔ (atI l (0 : Nat) = 239 ∧ atI l (1 : Nat) = 191 ∧ atI l (2 : Nat) = 189) := by
 match l, hb with
 | [], _ => simp [hasFD, strOfNums_size, atI]
 | [a], _ => simp [hasFD, strOfNums_size, atI]
 | [a, b], _ => simp [hasFD, strOfNums_size, atI]
 | a :: b :: c :: r, hb =>
  have ha := hb a (by simp)
  have hb' := hb b (by simp)
  have hc := hb c (by simp)
  have e0 := (atI_in hb 0 (by simp)).1
  have e1 := (atI_in hb 1 (by simp)).1
  have e2 := (atI_in hb 2 (by simp)).1
  rw [e0, e1, e2]
  have hx : ((strOfNums (a :: b :: c :: r)).extract 0 3).toList = [UInt8.ofNat a.toNat, UInt8.ofNat b.toNat, UInt8.ofNat c.toNat] := by
   have he : (strOfNums (a :: b :: c :: r)).extract 0 3 = strOfNums [a, b, c] := by
    apply ByteArray.ext
    rw [ByteArray.data_extract]
    apply Array.ext'
    rw [Array.toList_extract]
    simp [strOfNums]
   rw [he, Lib.strOfNums_toList]
   rfl
  have u : ∀ (n : Int) (k : Nat), 0 ≤ n → n ≤ 255 → k ≤ 255 → ((UInt8.ofNat n.toNat = UInt8.ofNat k) ↔ n = (k : Int)) := by
   intro n k h0 h1 h2
   rw [← UInt8.toNat_inj]
   simp
   omega
  unfold hasFD
  rw [hx, strOfNums_size]
  have u0 := u a 239 ha.1 ha.2 (by decide)
  have u1 := u b 191 hb'.1 hb'.2 (by decide)
  have u2 := u c 189 hc.1 hc.2 (by decide)
  simp only [beq_iff_eq, Bool.and_eq_true, decide_eq_true_eq, List.cons.injEq, and_true]
  have v0 : (UInt8.ofNat a.toNat = (239 : UInt8)) ↔ a = 239 := u0
  have v1 : (UInt8.ofNat b.toNat = (191 : UInt8)) ↔ b = 191 := u1
  have v2 : (UInt8.ofNat c.toNat = (189 : UInt8)) ↔ c = 189 := u2
  rw [v0, v1, v2]
  simp
/-- The step at a place, by the table. -/
def ofL (l : List Int) (p : Nat) : Int × Int × Bool :=
 if longAt l (p : Int) = 0 then (65533, 1, false) else (runeV (atI l (p : Int)) (atI l (p + 1 : Nat)) (atI l (p + 2 : Nat)) (atI l (p + 3 : Nat)), longAt l (p : Int), true)
theorem longAt_nat (l : List Int) (p : Nat) (hp : p ≤ 4611686018427387904) : longAt l (p : Int) = longOf (atI l (p : Int)) (atI l (p + 1 : Nat)) (atI l (p + 2 : Nat)) (atI l (p + 3 : Nat)) := by
 unfold longAt
 rw [wrap64_small (by omega) (by omega), wrap64_small (by omega) (by omega), wrap64_small (by omega) (by omega)]
 rfl
theorem first_of {l : List Int} (hb : Bytes l) (p : Nat) (hp : p < l.length) (hl : l.length ≤ 4611686018427387904) :
  firstOf ((strOfNums l).extract p (strOfNums l).size) = ofL l p ∧ ((Utf8.decode (strOfNums l) p).2 : Int) = (ofL l p).2.1 := by
 have d1 := decode_int hb p hp
 have d2 := decode_int (hb.drop p) 0 (by simp; omega)
 have r0 := atI_range hb p
 have r1 := atI_range hb (p + 1)
 have r2 := atI_range hb (p + 2)
 have r3 := atI_range hb (p + 3)
 have hx0 : 0 ≤ atI l (p : Int) := by rw [(atI_in hb p hp).1]; exact (atI_in hb p hp).2.1
 have q0 := atI_drop l p 0
 have q1 := atI_drop l p 1
 have q2 := atI_drop l p 2
 have q3 := atI_drop l p 3
 have hfd := hasFD_int (hb.drop p)
 simp only [Nat.zero_add, Nat.add_zero] at d2 q0 q1 q2 q3
 rw [q0, q1, q2, q3] at d2
 rw [q0, q1, q2] at hfd
 have hlong := longAt_nat l p (by omega)
 rw [strOfNums_drop]
 unfold ofL firstOf
 rw [hlong, strOfNums_size, if_neg (by simp; omega)]
 have hD := decV_long (atI l (p : Int)) (atI l (p + 1 : Nat)) (atI l (p + 2 : Nat)) (atI l (p + 3 : Nat)) hx0 r0.2 r1.2 r2.2 r3.2 r1.1 r2.1 r3.1
 have hS := runeV_size (atI l (p : Int)) (atI l (p + 1 : Nat)) (atI l (p + 2 : Nat)) (atI l (p + 3 : Nat)) hx0 r0.2 r1.2 r2.2 r3.2
 obtain ⟨x, hx⟩ : ∃ x, atI l (p : Int) = x := ⟨_, rfl⟩
 obtain ⟨y, hy⟩ : ∃ x, atI l (p + 1 : Nat) = x := ⟨_, rfl⟩
 obtain ⟨z, hz⟩ : ∃ x, atI l (p + 2 : Nat) = x := ⟨_, rfl⟩
 obtain ⟨v, hv⟩ : ∃ x, atI l (p + 3 : Nat) = x := ⟨_, rfl⟩
 simp only [hx, hy, hz, hv] at d1 d2 hfd hD hS ⊢
 clear q0 q1 q2 q3 hx hy hz hv hlong r0 r1 r2 r3 hx0
 by_cases h0 : longOf x y z v = 0
 ·obtain ⟨hd, hn⟩ := hD.1 h0
  rw [hd] at d1 d2
  simp only [Prod.mk.injEq] at d1 d2
  have e1 : (Utf8.decode (strOfNums (l.drop p)) 0).1 = 65533 := by omega
  rw [if_pos h0, if_pos e1, if_neg (fun h => hn (hfd.1 h))]
  exact ⟨rfl, by rw [d1.2]; rfl⟩
 ·obtain ⟨hd, hr⟩ := hD.2 h0
  have hs := hS h0
  rw [hd] at d1 d2
  simp only [Prod.mk.injEq] at d1 d2
  have hpos : 0 ≤ longOf x y z v := by rw [← hs]; omega
  rw [if_neg h0]
  by_cases hr3 : runeV x y z v = 65533
  ·have e1 : (Utf8.decode (strOfNums (l.drop p)) 0).1 = 65533 := by omega
   rw [if_pos e1, if_pos (hfd.2 (hr.1 hr3)), hr3]
   have hl3 : longOf x y z v = 3 := by
    rw [hr3] at hs
    rw [← hs]
    rfl
   rw [hl3] at d1 ⊢
   exact ⟨rfl, by rw [d1.2]; rfl⟩
  ·have e1 : ¬ (Utf8.decode (strOfNums (l.drop p)) 0).1 = 65533 := by omega
   rw [if_neg e1, d2.1, hs]
   refine ⟨rfl, ?_⟩
   show ((Utf8.decode (strOfNums l) p).2 : Int) = longOf x y z v
   rw [d1.2]
   omega

end Go.Proofs.YtijbkiajhicooaaDoor.PW

namespace Go.Proofs.YtijbkiajhicooaaDoor.PW
open Go.RowKit Go.Proofs.YtijbkiajhicooaaDoorW.PrintWords Go.Proofs.YtijbkiajhicooaaDoorW.PrintLast Go.Proofs.YtijbkiajhicooaaDoorW.PrintMore
attribute [local go_sem] max2_int min2_int max_two min_two max_three min_three max_four min_four   -- for this text's walks alone
set_option linter.unusedVariables false
set_option linter.unusedSimpArgs false

def Ev {β : Type} (g : Nat → Option β) (v : β) : Prop := ∃ K, ∀ k, K ≤ k → g k = some v
theorem Ev.pure {β : Type} (v : β) : Ev (fun _ => some v) v := ⟨0, fun _ _ => rfl⟩
theorem Ev.of_eq {β : Type} {g : Nat → Option β} {v : β} (h : ∀ k, g k = some v) : Ev g v := ⟨0, fun k _ => h k⟩
theorem Ev.bind {α β : Type} {g : Nat → Option α} {h : Nat → α → Option β} {v : α} {u : β} (hg : Ev g v) (hh : Ev (fun k => h k v) u) : Ev (fun k => (g k).bind (h k)) u := by
 obtain ⟨K, hK⟩ := hg
 obtain ⟨M, hM⟩ := hh
 refine ⟨max K M, fun k hk => ?_⟩
 show (g k).bind (h k) = some u
 rw [hK k (by omega)]
 exact hM k (by omega)
theorem Ev.succ {β : Type} {g h : Nat → Option β} {v : β} (hh : Ev h v) (e : ∀ k, g (k + 1) = h k) : Ev g v := by
 obtain ⟨K, hK⟩ := hh
 refine ⟨K + 1, fun k hk => ?_⟩
 obtain ⟨m, rfl⟩ : ∃ m, k = m + 1 := ⟨k - 1, by omega⟩
 rw [e]
 exact hK m (by omega)
theorem Ev.congr {β : Type} {g h : Nat → Option β} {v : β} (hh : Ev h v) (e : ∀ k, g k = h k) : Ev g v := by
 obtain ⟨K, hK⟩ := hh
 exact ⟨K, fun k hk => by rw [e]; exact hK k hk⟩
theorem Ev.some {β : Type} {g : Nat → Option β} {v : β} (h : Ev g v) : ∃ k, g k = some v := by
 obtain ⟨K, hK⟩ := h
 exact ⟨K, hK K (Nat.le_refl _)⟩
/-- Does an encoding begin ahead of the place and end behind it? -/
def insideB (l : List Int) (p : Nat) : Bool :=
 (decide (1 ≤ p) && decide (longAt l ((p - 1 : Nat) : Int) > 1)) || (decide (2 ≤ p) && decide (longAt l ((p - 2 : Nat) : Int) > 2)) || (decide (3 ≤ p) && decide (longAt l ((p - 3 : Nat) : Int) > 3))
theorem inside_ev (l : List Int) (p : Nat) (hp : p ≤ 4611686018427387904) : Ev (fun k => galleyref02_Inside.f k l (p : Int)) (insideB l p) := by
 refine ⟨4, fun k hk => ?_⟩
 obtain ⟨m, rfl⟩ : ∃ m, k = m + 4 := ⟨k - 4, by omega⟩
 have w1 : wrap64 ((p : Int) - 1) = p - 1 := wrap64_small (by omega) (by omega)
 have w2 : wrap64 ((p : Int) - 2) = p - 2 := wrap64_small (by omega) (by omega)
 have w3 : wrap64 ((p : Int) - 3) = p - 3 := wrap64_small (by omega) (by omega)
 have s1 : wrap64 (1 + 1) = 2 := by unfold wrap64; omega
 have s2 : wrap64 (2 + 1) = 3 := by unfold wrap64; omega
 have s3 : wrap64 (3 + 1) = 4 := by unfold wrap64; omega
 have n1 : (1 ≤ p) → ((p - 1 : Nat) : Int) = (p : Int) - 1 := fun h => by omega
 have n2 : (2 ≤ p) → ((p - 2 : Nat) : Int) = (p : Int) - 2 := fun h => by omega
 have n3 : (3 ≤ p) → ((p - 3 : Nat) : Int) = (p : Int) - 3 := fun h => by omega
 have g1 : ((p : Int) - 1 ≥ 0) ↔ 1 ≤ p := by omega
 have g2 : ((p : Int) - 2 ≥ 0) ↔ 2 ≤ p := by omega
 have g3 : ((p : Int) - 3 ≥ 0) ↔ 3 ≤ p := by omega
 unfold galleyref02_Inside.f insideB
 simp only [galleyref02_Inside.l0, galleyref02_Long.f, Option.bind_some, w1, w2, w3, s1, s2, s3, g1, g2, g3]
 by_cases h1 : 1 ≤ p
 ·rw [n1 h1]
  by_cases h2 : 2 ≤ p
  ·rw [n2 h2]
   by_cases h3 : 3 ≤ p
   ·rw [n3 h3]
    simp only [h1, h2, h3]
    by_cases a1 : longAt l ((p : Int) - 1) > 1
    ·simp [a1]
    ·by_cases a2 : longAt l ((p : Int) - 2) > 2
     ·simp [a1, a2]
     ·by_cases a3 : longAt l ((p : Int) - 3) > 3
      ·simp [a1, a2, a3]
      ·simp [a1, a2, a3]
   ·simp only [h1, h2, h3]
    by_cases a1 : longAt l ((p : Int) - 1) > 1
    ·simp [a1]
    ·by_cases a2 : longAt l ((p : Int) - 2) > 2
     ·simp [a1, a2]
     ·simp [a1, a2]
  ·have h3 : ¬ 3 ≤ p := by omega
   simp only [h1, h2, h3]
   by_cases a1 : longAt l ((p : Int) - 1) > 1
   ·simp [a1]
   ·simp [a1]
 ·have h2 : ¬ 2 ≤ p := by omega
  have h3 : ¬ 3 ≤ p := by omega
  simp [h1, h2, h3]
theorem edges_ev (l : List Int) (hl : l.length ≤ 4398046511104) : ∀ (n p : Nat) (out : List Int), p + n = l.length + 1 → out.length ≤ p → Ev (fun k => galleyref02_Edges.l0 k l out (p : Int)) (out ++ ((List.range' p n).filter fun q => !insideB l q).map (Int.ofNat ·)) := by
 intro n
 induction n with
 | zero =>
  intro p out hp ho
  refine Ev.succ (h := fun _ => some out) ?_ (fun k => ?_)
  ·simpa using Ev.pure out
  ·simp only [galleyref02_Edges.l0]
   rw [if_neg (by omega)]
 | succ n ih =>
  intro p out hp ho
  have hw : wrap64 ((p : Int) + 1) = ((p + 1 : Nat) : Int) := by rw [wrap64_small (by omega) (by omega)]; omega
  refine Ev.succ (h := fun k => (galleyref02_Inside.f k l (p : Int)).bind fun t => if t = true then galleyref02_Edges.l0 k l out ((p + 1 : Nat) : Int) else galleyref02_Edges.l0 k l (out ++ [(p : Int)]) ((p + 1 : Nat) : Int)) ?_ (fun k => ?_)
  ·refine Ev.bind (inside_ev l p (by omega)) ?_
   rw [List.range'_succ, List.filter_cons]
   cases hi : insideB l p with
   | true => simpa using ih (p + 1) out (by omega) (by omega)
   | false => simpa using ih (p + 1) (out ++ [(p : Int)]) (by omega) (by simp; omega)
  ·simp only [galleyref02_Edges.l0]
   rw [if_pos (by omega), hw]
   congr 1
   funext t
   rw [if_pos (show out.length < 17592186044416 by omega)]

end Go.Proofs.YtijbkiajhicooaaDoor.PW

namespace Go.Proofs.YtijbkiajhicooaaDoor.PW
open Go.RowKit Go.Proofs.YtijbkiajhicooaaDoorW.PrintWords Go.Proofs.YtijbkiajhicooaaDoorW.PrintLast Go.Proofs.YtijbkiajhicooaaDoorW.PrintMore
attribute [local go_sem] max2_int min2_int max_two min_two max_three min_three max_four min_four   -- for this text's walks alone
set_option linter.unusedVariables false
set_option linter.unusedSimpArgs false

theorem same_hits_l0 (a : List S36) (hl : a.length ≤ 4398046511104) : ∀ (n i : Nat), a.length - i = n → i ≤ a.length → Ev (fun k => galleyref22_SameHits.l0 k a a (i : Int)) true := by
 intro n
 induction n with
 | zero =>
  intro i hn hi
  obtain rfl : i = a.length := by omega
  refine Ev.succ (h := fun _ => some true) (Ev.pure true) (fun k => ?_)
  rw [galleyref22_SameHits.l0, if_neg (by omega)]
 | succ n ih =>
  intro i hn hi
  have hw : wrap64 ((i : Int) + 1) = ((i + 1 : Nat) : Int) := by rw [wrap64_small (by omega) (by omega)]; omega
  refine Ev.succ (ih (i + 1) (by omega) (by omega)) (fun k => ?_)
  rw [galleyref22_SameHits.l0, if_pos (by omega), if_pos (by omega), if_pos (by omega), hw, if_neg (by simp)]
theorem same_hits (a : List S36) (hl : a.length ≤ 4398046511104) : Ev (fun k => galleyref22_SameHits.f k a a) true := by
 refine Ev.congr (same_hits_l0 a hl a.length 0 (by omega) (by omega)) (fun k => ?_)
 unfold galleyref22_SameHits.f
 rw [if_pos rfl]
 rfl

end Go.Proofs.YtijbkiajhicooaaDoor.PW

namespace Go.Proofs.YtijbkiajhicooaaDoor.PW
open Go.RowKit Go.Proofs.YtijbkiajhicooaaDoorW.PrintWords Go.Proofs.YtijbkiajhicooaaDoorW.PrintLast Go.Proofs.YtijbkiajhicooaaDoorW.PrintMore
attribute [local go_sem] max2_int min2_int max_two min_two max_three min_three max_four min_four   -- for this text's walks alone
set_option linter.unusedVariables false
set_option linter.unusedSimpArgs false

/-- How far the step at a place goes. -/
def widL (l : List Int) (p : Nat) : Nat := if longAt l (p : Int) = 0 then 1 else (longAt l (p : Int)).toNat
theorem longAt_facts {l : List Int} (hb : Bytes l) (p : Nat) (hl : l.length ≤ 4398046511104) (hp : p ≤ l.length) :
  0 ≤ longAt l (p : Int) ∧ longAt l (p : Int) ≤ 4 ∧ (0 < longAt l (p : Int) → p + (longAt l (p : Int)).toNat ≤ l.length) ∧
  (∀ j : Nat, 1 ≤ j → (j : Int) < longAt l (p : Int) → 128 ≤ atI l (p + j : Nat) ∧ atI l (p + j : Nat) ≤ 191) ∧ (128 ≤ atI l (p : Int) ∧ atI l (p : Int) ≤ 191 → longAt l (p : Int) = 0) := by
 have hlong := longAt_nat l p (by omega)
 have r1 : 0 ≤ atI l (p + 1 : Nat) → p + 1 < l.length := fun h => by
  by_cases g : p + 1 < l.length
  ·exact g
  ·rw [atI_out l _ (by omega)] at h; omega
 have r2 : 0 ≤ atI l (p + 2 : Nat) → p + 2 < l.length := fun h => by
  by_cases g : p + 2 < l.length
  ·exact g
  ·rw [atI_out l _ (by omega)] at h; omega
 have r3 : 0 ≤ atI l (p + 3 : Nat) → p + 3 < l.length := fun h => by
  by_cases g : p + 3 < l.length
  ·exact g
  ·rw [atI_out l _ (by omega)] at h; omega
 have r0 : 0 ≤ atI l (p : Int) → p < l.length := fun h => by
  by_cases g : p < l.length
  ·exact g
  ·rw [atI_out l _ (by omega)] at h; omega
 have sp : ∀ j : Nat, 1 ≤ j → (j : Int) < 4 → j = 1 ∨ j = 2 ∨ j = 3 := fun j h1 h2 => by omega
 rw [hlong]
 rcases longOf_cases (atI l (p : Int)) (atI l (p + 1 : Nat)) (atI l (p + 2 : Nat)) (atI l (p + 3 : Nat)) with ⟨h, e⟩ | ⟨h, e⟩ | ⟨h, e⟩ | ⟨h, e⟩ | ⟨h1, h2, h3, h4, e⟩
 ·unfold isOne at h
  rw [e]
  exact ⟨by omega, by omega, fun _ => by have := r0 (by omega); simp; omega, fun j h1 h2 => by omega, fun g => by omega⟩
 ·unfold isTwo at h
  rw [e]
  refine ⟨by omega, by omega, fun _ => by have := r1 (by omega); simp; omega, fun j h1 h2 => ?_, fun g => by omega⟩
  obtain rfl : j = 1 := by omega
  omega
 ·unfold isThree at h
  rw [e]
  refine ⟨by omega, by omega, fun _ => by have := r2 (by omega); simp; omega, fun j h1 h2 => ?_, fun g => by omega⟩
  rcases (show j = 1 ∨ j = 2 by omega) with rfl | rfl
  ·omega
  ·omega
 ·unfold isFour at h
  rw [e]
  refine ⟨by omega, by omega, fun _ => by have := r3 (by omega); simp; omega, fun j h1 h2 => ?_, fun g => by omega⟩
  rcases sp j h1 h2 with rfl | rfl | rfl
  ·omega
  ·omega
  ·omega
 ·rw [e]
  exact ⟨by omega, by omega, fun h => by omega, fun j h1 h2 => by omega, fun _ => rfl⟩
theorem widL_pos {l : List Int} (hb : Bytes l) (p : Nat) (hl : l.length ≤ 4398046511104) (hp : p < l.length) : 1 ≤ widL l p ∧ widL l p ≤ 4 ∧ p + widL l p ≤ l.length := by
 obtain ⟨h0, h1, h2, _, _⟩ := longAt_facts hb p hl (by omega)
 unfold widL
 by_cases h : longAt l (p : Int) = 0
 ·rw [if_pos h]; omega
 ·rw [if_neg h]
  have := h2 (by omega)
  omega
/-- A place where a step begins: no encoding reaches over it. -/
def Vis (l : List Int) (p : Nat) : Prop := ∀ j : Nat, 1 ≤ j → j ≤ 3 → j ≤ p → longAt l ((p - j : Nat) : Int) ≤ j
theorem inside_vis {l : List Int} {p : Nat} (h : Vis l p) : insideB l p = false := by
 unfold insideB
 have h1 := h 1 (by omega) (by omega)
 have h2 := h 2 (by omega) (by omega)
 have h3 := h 3 (by omega) (by omega)
 by_cases g1 : 1 ≤ p
 ·have := h1 g1
  by_cases g2 : 2 ≤ p
  ·have := h2 g2
   by_cases g3 : 3 ≤ p
   ·have := h3 g3
    simp; omega
   ·simp; omega
  ·simp; omega
 ·simp; omega
theorem vis_next {l : List Int} (hb : Bytes l) {p : Nat} (hl : l.length ≤ 4398046511104) (hp : p < l.length) (h : Vis l p) : Vis l (p + widL l p) := by
 intro j j1 j3 jp
 obtain ⟨h0, h4, h2, hc, _⟩ := longAt_facts hb p hl (by omega)
 obtain ⟨w1, w4, wl⟩ := widL_pos hb p hl hp
 by_cases c1 : j = widL l p
 ·rw [show p + widL l p - j = p by omega]
  rw [c1]
  unfold widL
  by_cases g : longAt l (p : Int) = 0
  ·rw [if_pos g]; omega
  ·rw [if_neg g]; omega
 ·by_cases c2 : j < widL l p
  ·obtain ⟨i, hi⟩ : ∃ i, widL l p - j = i := ⟨_, rfl⟩
   have hlt : (i : Int) < longAt l (p : Int) := by
    unfold widL at hi c2
    by_cases g : longAt l (p : Int) = 0
    ·rw [if_pos g] at c2; omega
    ·rw [if_neg g] at hi; omega
   have hcc := hc i (by omega) hlt
   have hz := (longAt_facts hb (p + i) hl (by omega)).2.2.2.2 hcc
   rw [show p + widL l p - j = p + i by omega, hz]
   omega
  ·have := h (j - widL l p) (by omega) (by omega) (by omega)
   rw [show p + widL l p - j = p - (j - widL l p) by omega]
   omega
theorem vis_zero (l : List Int) : Vis l 0 := fun j h1 _ h3 => by omega
theorem inside_step {l : List Int} (hb : Bytes l) {p : Nat} (hl : l.length ≤ 4398046511104) (hp : p < l.length) (j : Nat) (h1 : 1 ≤ j) (h2 : j < widL l p) : insideB l (p + j) = true := by
 obtain ⟨h0, h4, _, _, _⟩ := longAt_facts hb p hl (by omega)
 obtain ⟨w1, w4, wl⟩ := widL_pos hb p hl hp
 have hlt : (j : Int) < longAt l (p : Int) := by
  unfold widL at h2
  by_cases g : longAt l (p : Int) = 0
  ·rw [if_pos g] at h2; omega
  ·rw [if_neg g] at h2; omega
 unfold insideB
 rcases (show j = 1 ∨ j = 2 ∨ j = 3 by omega) with rfl | rfl | rfl
 ·rw [show p + 1 - 1 = p by omega]
  simp; omega
 ·rw [show p + 2 - 2 = p by omega]
  simp; omega
 ·rw [show p + 3 - 3 = p by omega]
  simp; omega
/-- The places where steps begin, from an edge on, and the end. -/
theorem edges_from {l : List Int} (hb : Bytes l) (hl : l.length ≤ 4398046511104) : ∀ (n p : Nat), l.length - p = n → p ≤ l.length → Vis l p →
  ((List.range' p (l.length + 1 - p)).filter fun q => !insideB l q).map (Int.ofNat ·) = (stepsFrom (strOfNums l) p).map (·.1) ++ [(l.length : Int)] := by
 intro n
 induction n using Nat.strongRecOn with
 | _ n ih =>
  intro p hn hp hv
  by_cases hlt : p < l.length
  ·obtain ⟨w1, w4, wl⟩ := widL_pos hb p hl hlt
   have hd := (first_of hb p hlt (by omega)).2
   have hw : (Utf8.decode (strOfNums l) p).2 = widL l p := by
    have : (ofL l p).2.1 = (widL l p : Int) := by
     unfold ofL widL
     by_cases g : longAt l (p : Int) = 0
     ·rw [if_pos g, if_pos g]; rfl
     ·rw [if_neg g, if_neg g]
      have := (longAt_facts hb p hl (by omega)).1
      show longAt l (p : Int) = _
      omega
    omega
   rw [stepsFrom_cons _ _ (by rw [strOfNums_size]; exact hlt), hw]
   have hr : List.range' p (l.length + 1 - p) = List.range' p (widL l p) ++ List.range' (p + widL l p) (l.length + 1 - (p + widL l p)) := by
    rw [List.range'_append_1]
    congr 1
    omega
   have hf : (List.range' p (widL l p)).filter (fun q => !insideB l q) = [p] := by
    obtain ⟨m, hm⟩ : ∃ m, widL l p = m + 1 := ⟨widL l p - 1, by omega⟩
    rw [hm, List.range'_succ, List.filter_cons, inside_vis hv]
    simp only [Bool.not_false, if_true, List.cons.injEq, true_and]
    rw [List.filter_eq_nil_iff]
    intro q hq
    rw [List.mem_range'_1] at hq
    have := inside_step hb hl hlt (q - p) (by omega) (by omega)
    rw [show p + (q - p) = q by omega] at this
    simp [this]
   rw [hr, List.filter_append, List.map_append, hf, ih (l.length - (p + widL l p)) (by omega) (p + widL l p) rfl (by omega) (vis_next hb hl hlt hv)]
   rfl
  ·obtain rfl : p = l.length := by omega
   rw [stepsFrom_nil _ _ (by rw [strOfNums_size]; exact hlt), show l.length + 1 - l.length = 1 by omega]
   simp [List.range', inside_vis hv]

end Go.Proofs.YtijbkiajhicooaaDoor.PW

namespace Go.Proofs.YtijbkiajhicooaaDoor.PW
open Go.RowKit Go.Proofs.YtijbkiajhicooaaDoorW.PrintWords Go.Proofs.YtijbkiajhicooaaDoorW.PrintLast Go.Proofs.YtijbkiajhicooaaDoorW.PrintMore
attribute [local go_sem] max2_int min2_int max_two min_two max_three min_three max_four min_four   -- for this text's walks alone
set_option linter.unusedVariables false
set_option linter.unusedSimpArgs false

theorem wrap32_small {n : Int} (h0 : -2147483648 ≤ n) (h1 : n ≤ 2147483647) : wrap32 n = n := by unfold wrap32; omega
theorem rd_atI {l : List Int} (hb : Bytes l) (p : Nat) (h : p < l.length) : rd l (p : Int) = atI l (p : Int) ∧ 0 ≤ atI l (p : Int) ∧ atI l (p : Int) ≤ 255 := by
 obtain ⟨e, h0, h1⟩ := atI_in hb p h
 rw [e]
 exact ⟨by unfold rd; simp, h0, h1⟩
theorem tmod_nn (a b : Int) (h : 0 ≤ a) : Int.tmod a b = a % b := Int.tmod_eq_emod_of_nonneg h
theorem of_l0_step {l : List Int} (hb : Bytes l) (hl : l.length ≤ 4398046511104) (m p i : Nat) (n r : Int) (hi : (i : Int) < n) (hin : p + i < l.length) (h4 : i ≤ 4) (r0 : 0 ≤ r) (r1 : r ≤ 2097152) :
  galleyref02_Of.l0 (m + 1) l (p : Int) n r (i : Int) = galleyref02_Of.l0 m l (p : Int) n (r * 64 + atI l (p + i : Nat) % 64) ((i + 1 : Nat) : Int) := by
 obtain ⟨e, y0, y1⟩ := rd_atI hb (p + i) hin
 have e1 : wrap64 ((p : Int) + (i : Int)) = ((p + i : Nat) : Int) := by rw [wrap64_small (by omega) (by omega)]; omega
 have e2 : wrap64 ((i : Int) + 1) = ((i + 1 : Nat) : Int) := by rw [wrap64_small (by omega) (by omega)]; omega
 have e3 : wrap64 (rd l ((p + i : Nat) : Int)) = atI l (p + i : Nat) := by rw [e, wrap64_small (by omega) (by omega)]
 have e4 : wrap64 (r * 64) = r * 64 := wrap64_small (by omega) (by omega)
 have e5 : wrap64 (r * 64 + atI l (p + i : Nat) % 64) = r * 64 + atI l (p + i : Nat) % 64 := wrap64_small (by omega) (by omega)
 rw [galleyref02_Of.l0, if_pos hi, e1, if_pos (by omega), if_pos (by omega), e2, e3, e4, tmod_nn _ _ y0, e5]
theorem of_l0_end (l : List Int) (m : Nat) (p n r i : Int) (h : ¬ i < n) (r0 : 0 ≤ r) (r1 : r ≤ 2097152) : galleyref02_Of.l0 (m + 1) l p n r i = some (r, n, true) := by
 rw [galleyref02_Of.l0, if_neg h, wrap32_small (by omega) (by omega)]
theorem of_ev {l : List Int} (hb : Bytes l) (hl : l.length ≤ 4398046511104) (p : Nat) (hp : p < l.length) : Ev (fun k => galleyref02_Of.f k l (p : Int)) (ofL l p) := by
 refine ⟨6, fun k hk => ?_⟩
 obtain ⟨m, rfl⟩ : ∃ m, k = m + 6 := ⟨k - 6, by omega⟩
 obtain ⟨f0, f4, fl, fc, _⟩ := longAt_facts hb p hl (by omega)
 obtain ⟨e0, x0, x1⟩ := rd_atI hb p hp
 have hlong := longAt_nat l p (by omega)
 have wx : wrap64 (rd l (p : Int)) = atI l (p : Int) := by rw [e0, wrap64_small (by omega) (by omega)]
 have g0 : (0 : Int) ≤ (p : Int) := by omega
 have g1 : (p : Int) < (l.length : Int) := by omega
 have hy := atI_range hb (p + 1)
 have hz := atI_range hb (p + 2)
 show galleyref02_Of.f (m + 6) l (p : Int) = some _
 unfold galleyref02_Of.f ofL
 rw [show galleyref02_Long.f l (p : Int) = some (longAt l (p : Int)) from rfl, Option.bind_some, wx]
 rcases longOf_cases (atI l (p : Int)) (atI l (p + 1 : Nat)) (atI l (p + 2 : Nat)) (atI l (p + 3 : Nat)) with ⟨h, e⟩ | ⟨h, e⟩ | ⟨h, e⟩ | ⟨h, e⟩ | ⟨h1, h2, h3, h4, e⟩
 ·have hr : runeV (atI l (p : Int)) (atI l (p + 1 : Nat)) (atI l (p + 2 : Nat)) (atI l (p + 3 : Nat)) = atI l (p : Int) := by unfold runeV; rw [if_pos e]
  rw [hr, hlong, e, if_neg (by decide), if_pos g0, if_pos g1, if_neg (by decide), if_neg (by decide), if_neg (by decide), if_neg (by decide)]
  rw [galleyref02_Of.j0, of_l0_end _ _ _ _ _ _ (by decide) (by omega) (by omega)]
 ·have hr : runeV (atI l (p : Int)) (atI l (p + 1 : Nat)) (atI l (p + 2 : Nat)) (atI l (p + 3 : Nat)) = atI l (p : Int) % 32 * 64 + atI l (p + 1 : Nat) % 64 := by unfold runeV; rw [if_neg (by rw [e]; decide), if_pos e]
  have q1 : p + 2 ≤ l.length := by rw [hlong, e] at fl; exact fl (by decide)
  have y0 := (rd_atI hb (p + 1) (by omega)).2
  rw [hr, hlong, e, if_neg (by decide), if_pos g0, if_pos g1, if_pos rfl, tmod_nn _ _ x0, if_neg (by decide), galleyref02_Of.j0]
  refine (of_l0_step hb hl (m + 4) p 1 2 _ (by decide) (by omega) (by decide) (by omega) (by omega)).trans ?_
  exact of_l0_end _ _ _ _ _ _ (by decide) (by omega) (by omega)
 ·have hr : runeV (atI l (p : Int)) (atI l (p + 1 : Nat)) (atI l (p + 2 : Nat)) (atI l (p + 3 : Nat)) = atI l (p : Int) % 16 * 4096 + atI l (p + 1 : Nat) % 64 * 64 + atI l (p + 2 : Nat) % 64 := by unfold runeV; rw [if_neg (by rw [e]; decide), if_neg (by rw [e]; decide), if_pos e]
  have q1 : p + 3 ≤ l.length := by rw [hlong, e] at fl; exact fl (by decide)
  have y0 := (rd_atI hb (p + 1) (by omega)).2
  have z0 := (rd_atI hb (p + 2) (by omega)).2
  rw [hr, hlong, e, if_neg (by decide), if_pos g0, if_pos g1, if_neg (by decide), if_pos rfl, tmod_nn _ _ x0, if_neg (by decide), galleyref02_Of.j0]
  refine (of_l0_step hb hl (m + 4) p 1 3 _ (by decide) (by omega) (by decide) (by omega) (by omega)).trans ?_
  refine (of_l0_step hb hl (m + 3) p 2 3 _ (by decide) (by omega) (by decide) (by omega) (by omega)).trans ?_
  refine (of_l0_end _ _ _ _ _ _ (by decide) (by omega) (by omega)).trans ?_
  congr 2
  omega
 ·have hr : runeV (atI l (p : Int)) (atI l (p + 1 : Nat)) (atI l (p + 2 : Nat)) (atI l (p + 3 : Nat)) = atI l (p : Int) % 8 * 262144 + atI l (p + 1 : Nat) % 64 * 4096 + atI l (p + 2 : Nat) % 64 * 64 + atI l (p + 3 : Nat) % 64 := by unfold runeV; rw [if_neg (by rw [e]; decide), if_neg (by rw [e]; decide), if_neg (by rw [e]; decide)]
  have q1 : p + 4 ≤ l.length := by rw [hlong, e] at fl; exact fl (by decide)
  have y0 := (rd_atI hb (p + 1) (by omega)).2
  have z0 := (rd_atI hb (p + 2) (by omega)).2
  have v0 := (rd_atI hb (p + 3) (by omega)).2
  rw [hr, hlong, e, if_neg (by decide), if_pos g0, if_pos g1, if_neg (by decide), if_neg (by decide), if_pos rfl, tmod_nn _ _ x0, if_neg (by decide), galleyref02_Of.j0]
  refine (of_l0_step hb hl (m + 4) p 1 4 _ (by decide) (by omega) (by decide) (by omega) (by omega)).trans ?_
  refine (of_l0_step hb hl (m + 3) p 2 4 _ (by decide) (by omega) (by decide) (by omega) (by omega)).trans ?_
  refine (of_l0_step hb hl (m + 2) p 3 4 _ (by decide) (by omega) (by decide) (by omega) (by omega)).trans ?_
  refine (of_l0_end _ _ _ _ _ _ (by decide) (by omega) (by omega)).trans ?_
  congr 2
  omega
 ·rw [hlong, e, if_pos rfl, if_pos rfl]

end Go.Proofs.YtijbkiajhicooaaDoor.PW

namespace Go.Proofs.YtijbkiajhicooaaDoor.PW
open Go.RowKit Go.Proofs.YtijbkiajhicooaaDoorW.PrintWords Go.Proofs.YtijbkiajhicooaaDoorW.PrintLast Go.Proofs.YtijbkiajhicooaaDoorW.PrintMore
attribute [local go_sem] max2_int min2_int max_two min_two max_three min_three max_four min_four   -- for this text's walks alone
set_option linter.unusedVariables false
set_option linter.unusedSimpArgs false

theorem steps_mem {l : List Int} (hb : Bytes l) (hl : l.length ≤ 4398046511104) : ∀ (n p : Nat), l.length - p = n → ∀ x ∈ stepsFrom (strOfNums l) p, ∃ q : Nat, q < l.length ∧ x = ((q : Int), ofL l q) := by
 intro n
 induction n using Nat.strongRecOn with
 | _ n ih =>
  intro p hn x hx
  by_cases hlt : p < l.length
  ·have hw := decode_pos (strOfNums l) p (by rw [strOfNums_size]; exact hlt)
   rw [stepsFrom_cons _ _ (by rw [strOfNums_size]; exact hlt), List.mem_cons] at hx
   rcases hx with rfl | hx
   ·exact ⟨p, hlt, by rw [(first_of hb p hlt (by omega)).1]⟩
   ·exact ih (l.length - (p + (Utf8.decode (strOfNums l) p).2)) (by omega) _ rfl x hx
  ·rw [stepsFrom_nil _ _ (by rw [strOfNums_size]; exact hlt)] at hx
   cases hx
def toS (x : PStep) : S23 := ⟨x.2.1, x.2.2.1, x.2.2.2⟩
theorem steps_ev {l : List Int} (hb : Bytes l) (hl : l.length ≤ 4398046511104) (T : List PStep) (hT : ∀ x ∈ T, ∃ q : Nat, q < l.length ∧ x = ((q : Int), ofL l q)) (hTl : T.length ≤ 4398046511104) (e : Int) :
  ∀ (n i : Nat) (out : List S23), T.length - i = n → i ≤ T.length → out.length ≤ i → Ev (fun k => galleyref02_Steps.l0 k l out (T.map (·.1) ++ [e]) (i : Int)) (out ++ (T.drop i).map toS) := by
 intro n
 induction n with
 | zero =>
  intro i out hn hi ho
  obtain rfl : i = T.length := by omega
  have hw : wrap64 ((T.length : Int) + 1) = (T.length : Int) + 1 := wrap64_small (by omega) (by omega)
  refine Ev.succ (h := fun _ => some out) ?_ (fun k => ?_)
  ·simpa using Ev.pure out
  ·rw [galleyref02_Steps.l0, hw, if_neg (by simp)]
 | succ n ih =>
  intro i out hn hi ho
  have hlt : i < T.length := by omega
  have hw : wrap64 ((i : Int) + 1) = ((i + 1 : Nat) : Int) := by rw [wrap64_small (by omega) (by omega)]; omega
  obtain ⟨q, hq, hx⟩ := hT T[i] (List.getElem_mem hlt)
  have hrd : rd (T.map (·.1) ++ [e]) (i : Int) = (q : Int) := by
   unfold rd
   rw [List.getD_eq_getElem?_getD, Int.toNat_natCast, List.getElem?_append_left (by simpa using hlt), List.getElem?_map, List.getElem?_eq_getElem hlt, hx]
   rfl
  refine Ev.succ (h := fun k => (galleyref02_Of.f k l (q : Int)).bind fun b => galleyref02_Steps.l0 k l (out ++ [⟨b.1, b.2.1, b.2.2⟩]) (T.map (·.1) ++ [e]) ((i + 1 : Nat) : Int)) ?_ (fun k => ?_)
  ·refine Ev.bind (of_ev hb hl q hq) ?_
   have := ih (i + 1) (out ++ [⟨(ofL l q).1, (ofL l q).2.1, (ofL l q).2.2⟩]) (by omega) (by omega) (by simp; omega)
   rw [List.drop_eq_getElem_cons hlt, hx]
   simpa [toS] using this
  ·rw [galleyref02_Steps.l0, hw, if_pos (by simp; omega), if_pos (by omega), if_pos (by simp; omega), hrd]
   congr 1
   funext b
   rw [if_pos (show out.length < 5864062014805 by omega)]
/-- All steps, by the reference. -/
theorem ref_steps {l : List Int} (hb : Bytes l) (hl : l.length ≤ 4398046511103) : Ev (fun k => galleyref02_Steps.f k l) ((allSteps (strOfNums l)).map toS) := by
 unfold galleyref02_Steps.f
 have he := edges_ev l (by omega) (l.length + 1) 0 [] (by omega) (by simp)
 have hf := edges_from hb (by omega) l.length 0 (by omega) (by omega) (vis_zero l)
 rw [show l.length + 1 - 0 = l.length + 1 by omega] at hf
 rw [hf, List.nil_append] at he
 refine Ev.bind (v := (stepsFrom (strOfNums l) 0).map (·.1) ++ [(l.length : Int)]) ?_ ?_
 ·exact he
 ·have hlen := stepsFrom_length (strOfNums l) 0
  rw [strOfNums_size] at hlen
  have := steps_ev hb (by omega) (stepsFrom (strOfNums l) 0) (steps_mem hb (by omega) l.length 0 (by omega)) (by omega) (l.length : Int) (stepsFrom (strOfNums l) 0).length 0 [] (by omega) (by omega) (by simp)
  simpa [allSteps] using this

end Go.Proofs.YtijbkiajhicooaaDoor.PW

namespace Go.Proofs.YtijbkiajhicooaaDoor.PW
open Go.RowKit Go.Proofs.YtijbkiajhicooaaDoorW.PrintWords Go.Proofs.YtijbkiajhicooaaDoorW.PrintLast Go.Proofs.YtijbkiajhicooaaDoorW.PrintMore
attribute [local go_sem] max2_int min2_int max_two min_two max_three min_three max_four min_four   -- for this text's walks alone
set_option linter.unusedVariables false
set_option linter.unusedSimpArgs false

theorem ref_kind (r x : Int) (w : Bool) : galleyref22_Kind.f 4 r x w = some (kindOf r w) := by
 unfold galleyref22_Kind.f kindOf
 cases w with
 | false => rfl
 | true =>
  simp only [if_true, galleyref22_Kind.j0, galleyref22_Kind.j1]
  by_cases h1 : r = 32
  ·simp [h1]
  ·by_cases h2 : r = 9
   ·simp [h2]
   ·rw [if_neg h1]
    have e9 : (r == 9) = false := by simpa using h2
    rw [e9, if_neg (show ¬ (r = 32 ∨ r = 9) by omega)]
    simp only [Bool.false_eq_true, if_false]
    by_cases h3 : r = 10
    ·simp [h3]
    ·by_cases h4 : r = 13
     ·simp [h4]
     ·rw [if_neg h3]
      have e13 : (r == 13) = false := by simpa using h4
      rw [e13, if_neg (show ¬ (r = 10 ∨ r = 13) by omega)]
      simp only [Bool.false_eq_true, if_false]
      by_cases h5 : (48 ≤ r ∧ r ≤ 57) ∨ r = 95 ∨ (65 ≤ r ∧ r ≤ 90) ∨ (97 ≤ r ∧ r ≤ 122) ∨ 128 ≤ r
      ·rw [if_pos h5]
       repeat' split
       all_goals first | rfl | (exfalso; omega)
      ·rw [if_neg h5]
       repeat' split
       all_goals first | rfl | (exfalso; omega)
theorem ref_kind_ev (r x : Int) (w : Bool) : Ev (fun k => galleyref22_Kind.f k r x w) (kindOf r w) := by
 refine ⟨4, fun k hk => ?_⟩
 obtain ⟨m, rfl⟩ : ∃ m, k = 4 + m := ⟨k - 4, by omega⟩
 induction m with
 | zero => exact ref_kind r x w
 | succ m ih => exact galleyref22_Kind.mono r x w (4 + m) _ (ih (by omega))

end Go.Proofs.YtijbkiajhicooaaDoor.PW

namespace Go.Proofs.YtijbkiajhicooaaDoor.PW
open Go.RowKit Go.Proofs.YtijbkiajhicooaaDoorW.PrintWords Go.Proofs.YtijbkiajhicooaaDoorW.PrintLast Go.Proofs.YtijbkiajhicooaaDoorW.PrintMore
attribute [local go_sem] max2_int min2_int max_two min_two max_three min_three max_four min_four   -- for this text's walks alone
set_option linter.unusedVariables false
set_option linter.unusedSimpArgs false

theorem width_next {l : List Int} (hb : Bytes l) (hl : l.length ≤ 4398046511104) (p : Nat) (hp : p < l.length) : ((Utf8.decode (strOfNums l) p).2 : Int) = (ofL l p).2.1 ∧ p + (Utf8.decode (strOfNums l) p).2 ≤ l.length := by
 have h := (first_of hb p hp (by omega)).2
 obtain ⟨w1, w4, wl⟩ := widL_pos hb p hl hp
 refine ⟨h, ?_⟩
 have e : (ofL l p).2.1 = (widL l p : Int) := by
  unfold ofL widL
  by_cases g : longAt l (p : Int) = 0
  ·rw [if_pos g, if_pos g]; rfl
  ·rw [if_neg g, if_neg g]
   have := (longAt_facts hb p hl (by omega)).1
   show longAt l (p : Int) = _
   omega
 omega
theorem of22_l0 {l : List Int} (hb : Bytes l) (hl : l.length ≤ 4398046511103) : ∀ (n p : Nat) (pre : List S23) (ps ks : List Int), l.length - p = n → p ≤ l.length → pre.length ≤ p → ps.length ≤ p → ks.length ≤ p →
  Ev (fun k => galleyref22_Of.l0 k (pre ++ (stepsFrom (strOfNums l) p).map toS) (p : Int) (pre.length : Int) ps ks)
   (ps ++ ((stepsFrom (strOfNums l) p).map (·.1) ++ [(l.length : Int)]), ks ++ (stepsFrom (strOfNums l) p).map fun x => kindOf x.2.1 x.2.2.2) := by
 intro n
 induction n using Nat.strongRecOn with
 | _ n ih =>
  intro p pre ps ks hn hp h1 h2 h3
  by_cases hlt : p < l.length
  ·obtain ⟨hw, hwl⟩ := width_next hb (by omega) p hlt
   have hpos := decode_pos (strOfNums l) p (by rw [strOfNums_size]; exact hlt)
   rw [stepsFrom_cons _ _ (by rw [strOfNums_size]; exact hlt), (first_of hb p hlt (by omega)).1]
   generalize (Utf8.decode (strOfNums l) p).2 = d at *
   obtain ⟨⟨r, x, b⟩, hx⟩ : ∃ x, ofL l p = x := ⟨_, rfl⟩
   rw [hx] at hw ⊢
   replace hw : (d : Int) = x := hw
   have hrd : rd_T23 (pre ++ List.map toS (((p : Int), r, x, b) :: stepsFrom (strOfNums l) (p + d))) (pre.length : Int) = ⟨r, x, b⟩ := by
    unfold rd_T23
    rw [List.getD_eq_getElem?_getD, Int.toNat_natCast, List.getElem?_append_right (Nat.le_refl _)]
    simp [toS]
   have hn1 : wrap64 ((pre.length : Int) + 1) = ((pre ++ [toS ((p : Int), r, x, b)]).length : Int) := by rw [wrap64_small (by omega) (by omega)]; simp
   have hp1 : wrap64 ((p : Int) + x) = ((p + d : Nat) : Int) := by rw [wrap64_small (by omega) (by omega)]; omega
   have := ih (l.length - (p + d)) (by omega) (p + d) (pre ++ [toS ((p : Int), r, x, b)]) (ps ++ [(p : Int)]) (ks ++ [kindOf r b]) rfl (by omega) (by simp; omega) (by simp; omega) (by simp; omega)
   refine Ev.succ (h := fun k => (galleyref22_Kind.f k r x b).bind fun t => galleyref22_Of.l0 k (pre ++ List.map toS (((p : Int), r, x, b) :: stepsFrom (strOfNums l) (p + d))) ((p + d : Nat) : Int) ((pre ++ [toS ((p : Int), r, x, b)]).length : Int) (ps ++ [(p : Int)]) (ks ++ [t])) ?_ (fun k => ?_)
   ·refine Ev.bind (ref_kind_ev r x b) ?_
    simpa [List.append_assoc] using this
   ·rw [galleyref22_Of.l0, if_pos (by simp; omega), if_pos (by omega), hrd, hn1, hp1]
    congr 1
    funext t
    rw [if_pos (show ps.length < 17592186044416 by omega), if_pos (show ks.length < 17592186044416 by omega)]
  ·obtain rfl : p = l.length := by omega
   rw [stepsFrom_nil _ _ (by rw [strOfNums_size]; exact hlt)]
   refine Ev.succ (h := fun _ => some (ps ++ [(l.length : Int)], ks)) ?_ (fun k => ?_)
   ·simpa using Ev.pure (ps ++ [(l.length : Int)], ks)
   ·rw [galleyref22_Of.l0, if_neg (by simp), if_pos (show ps.length < 17592186044416 by omega)]

end Go.Proofs.YtijbkiajhicooaaDoor.PW

namespace Go.Proofs.YtijbkiajhicooaaDoor.PW
open Go.RowKit Go.Proofs.YtijbkiajhicooaaDoorW.PrintWords Go.Proofs.YtijbkiajhicooaaDoorW.PrintLast Go.Proofs.YtijbkiajhicooaaDoorW.PrintMore
attribute [local go_sem] max2_int min2_int max_two min_two max_three min_three max_four min_four   -- for this text's walks alone
set_option linter.unusedVariables false
set_option linter.unusedSimpArgs false

theorem ofL_wid {l : List Int} (hb : Bytes l) (hl : l.length ≤ 4398046511104) (p : Nat) (hp : p < l.length) : (ofL l p).2.1 = (widL l p : Int) := by
 unfold ofL widL
 by_cases g : longAt l (p : Int) = 0
 ·rw [if_pos g, if_pos g]; rfl
 ·rw [if_neg g, if_neg g]
  have := (longAt_facts hb p hl (by omega)).1
  show longAt l (p : Int) = _
  omega
theorem sf_cons {l : List Int} (hb : Bytes l) (hl : l.length ≤ 4398046511104) (p : Nat) (hp : p < l.length) :
  stepsFrom (strOfNums l) p = ((p : Int), ofL l p) :: stepsFrom (strOfNums l) (p + widL l p) := by
 have h := first_of hb p hp (by omega)
 have hw := ofL_wid hb hl p hp
 rw [stepsFrom_cons _ _ (by rw [strOfNums_size]; exact hp), h.1, show (Utf8.decode (strOfNums l) p).2 = widL l p by omega]
theorem sf_nil {l : List Int} (p : Nat) (hp : l.length ≤ p) : stepsFrom (strOfNums l) p = [] := stepsFrom_nil _ _ (by rw [strOfNums_size]; omega)
/-- A step's kind. -/
abbrev kOf (x : PStep) : Int := kindOf x.2.1 x.2.2.2
theorem runStep_nil (x : PStep) : runStep [] x = [⟨⟨x.1, wrap64 (x.1 + x.2.2.1)⟩, kOf x⟩] := by
 unfold runStep
 rw [if_neg (by simp)]
 rfl
theorem rd_run_last (rs : List S83) (r : S83) : rd_T83 (rs ++ [r]) (((rs ++ [r]).length : Int) - 1) = r := by
 unfold rd_T83
 rw [List.getD_eq_getElem?_getD, show (((rs ++ [r]).length : Int) - 1).toNat = rs.length by simp, List.getElem?_append_right (Nat.le_refl _)]
 simp
theorem runStep_snoc (rs : List S83) (r : S83) (x : PStep) :
  runStep (rs ++ [r]) x = if r.f1 = kOf x then rs ++ [⟨⟨r.f0.f0, wrap64 (x.1 + x.2.2.1)⟩, r.f1⟩] else (rs ++ [r]) ++ [⟨⟨x.1, wrap64 (x.1 + x.2.2.1)⟩, kOf x⟩] := by
 unfold runStep
 rw [rd_run_last]
 by_cases h : r.f1 = kOf x
 ·rw [if_pos ⟨by simp, h⟩, if_pos h, show (((rs ++ [r]).length : Int) - 1).toNat = rs.length by simp]
  rw [List.set_append_right _ _ (Nat.le_refl _)]
  simp
 ·rw [if_neg (fun g => h g.2), if_neg h]
end Go.Proofs.YtijbkiajhicooaaDoor.PW

namespace Go.Proofs.YtijbkiajhicooaaDoor.PW
open Go.RowKit Go.Proofs.YtijbkiajhicooaaDoorW.PrintWords Go.Proofs.YtijbkiajhicooaaDoorW.PrintLast Go.Proofs.YtijbkiajhicooaaDoorW.PrintMore
attribute [local go_sem] max2_int min2_int max_two min_two max_three min_three max_four min_four   -- for this text's walks alone
set_option linter.unusedVariables false
set_option linter.unusedSimpArgs false

theorem rd_places {l : List Int} (hb : Bytes l) (hl : l.length ≤ 4398046511104) (pre : List PStep) (p : Nat) (hp : p ≤ l.length) :
  rd ((pre ++ stepsFrom (strOfNums l) p).map (·.1) ++ [(l.length : Int)]) (pre.length : Int) = (p : Int) := by
 unfold rd
 rw [List.getD_eq_getElem?_getD, Int.toNat_natCast]
 by_cases h : p < l.length
 ·rw [sf_cons hb hl p h]
  simp
 ·obtain rfl : p = l.length := by omega
  rw [sf_nil _ (Nat.le_refl _)]
  simp
theorem rd_kinds_at (pre : List PStep) (x : PStep) (rest : List PStep) : rd ((pre ++ x :: rest).map kOf) (pre.length : Int) = kOf x := by
 unfold rd
 rw [List.getD_eq_getElem?_getD, Int.toNat_natCast]
 simp
theorem rd_kinds_last (pre : List PStep) (y : PStep) (rest : List PStep) : rd (((pre ++ [y]) ++ rest).map kOf) (((pre ++ [y]).length : Int) - 1) = kOf y := by
 rw [show (((pre ++ [y]).length : Int) - 1) = (pre.length : Int) by simp, List.append_assoc]
 exact rd_kinds_at pre y rest
theorem rd_hit_last (a : List S36) (h : S36) (n : Int) (hn : n = (a.length : Int)) : rd_T36 (a ++ [h]) n = h := by
 subst hn
 unfold rd_T36
 rw [List.getD_eq_getElem?_getD, Int.toNat_natCast, List.getElem?_append_right (Nat.le_refl _)]
 simp
theorem set_hit_last (a : List S36) (h g : S36) (n : Int) (hn : n = (a.length : Int)) : (a ++ [h]).set n.toNat g = a ++ [g] := by
 subst hn
 rw [Int.toNat_natCast, List.set_append_right _ _ (Nat.le_refl _)]
 simp
/-- The runs so far, and the last step's kind. -/
def RInv (pre : List PStep) (rs : List S83) : Prop := (pre = [] ∧ rs = []) ∨ ∃ pre' y rs' r, pre = pre' ++ [y] ∧ rs = rs' ++ [r] ∧ r.f1 = kOf y
theorem rinv_step {pre : List PStep} {rs : List S83} (h : RInv pre rs) (x : PStep) : RInv (pre ++ [x]) (runStep rs x) := by
 rcases h with ⟨rfl, rfl⟩ | ⟨pre', y, rs', r, rfl, rfl, hk⟩
 ·rw [runStep_nil]
  exact .inr ⟨[], x, [], _, rfl, rfl, rfl⟩
 ·rw [runStep_snoc]
  by_cases g : r.f1 = kOf x
  ·rw [if_pos g]
   exact .inr ⟨_, x, rs', _, rfl, rfl, g⟩
  ·rw [if_neg g]
   exact .inr ⟨_, x, rs' ++ [r], _, rfl, rfl, rfl⟩
theorem runs22_first (ps ks : List Int) (x : PStep) (q : Int) (c1 : 0 < ks.length) (c3 : 1 < ps.length) (q0 : rd ps 0 = x.1) (q1 : rd ps 1 = q) (k0 : rd ks 0 = kOf x) (e : wrap64 (x.1 + x.2.2.1) = q) (k : Nat) :
  galleyref22_Runs.l0 (k + 1) [] [] 0 ps ks = galleyref22_Runs.l0 k ((runStep [] x).map (·.f0)) ((runStep [] x).map (·.f1)) 1 ps ks := by
 have z1 : wrap64 ((0 : Int) + 1) = 1 := by unfold wrap64; omega
 have z0 : wrap64 (((([] : List S36) ++ [(⟨x.1, x.1⟩ : S36)]).length : Int) - 1) = 0 := by unfold wrap64; simp
 rw [galleyref22_Runs.l0, if_pos (by omega), if_pos rfl, if_pos (Int.le_refl _), if_pos (by omega), if_pos (by decide), q0, Option.bind_some, if_pos (by decide), z1, if_pos (by decide), if_pos (by omega), z0, if_pos (by decide), if_pos (by simp), q1, k0, runStep_nil, e]
 rfl
theorem runs22_next (ps ks : List Int) (x : PStep) (q : Int) (rs' : List S83) (r : S83) (i : Nat) (h0 : 0 < i) (hi : i ≤ 4398046511103) (hr : rs'.length ≤ 4398046511103) (c1 : i < ks.length) (c3 : i + 1 < ps.length) :
  (rd ps (i : Int) = x.1) → (rd ps ((i : Int) + 1) = q) → (rd ks (i : Int) = kOf x) → (rd ks ((i : Int) - 1) = r.f1) → (wrap64 (x.1 + x.2.2.1) = q) → ∀ (k : Nat),
  galleyref22_Runs.l0 (k + 1) ((rs' ++ [r]).map (·.f0)) ((rs' ++ [r]).map (·.f1)) (i : Int) ps ks = galleyref22_Runs.l0 k ((runStep (rs' ++ [r]) x).map (·.f0)) ((runStep (rs' ++ [r]) x).map (·.f1)) ((i : Int) + 1) ps ks := by
 have l0 : ((rs'.map (·.f0) ++ [r.f0]).length : Int) = (rs'.length : Int) + 1 := by simp
 have l1 : (((rs'.map (·.f0) ++ [r.f0]) ++ [(⟨x.1, x.1⟩ : S36)]).length : Int) = (rs'.length : Int) + 1 + 1 := by simp; omega
 have l2 : ((rs'.map (·.f1) ++ [r.f1]).length : Int) = (rs'.length : Int) + 1 := by simp
 have a1 : (i : Int) < (ks.length : Int) := by omega
 have a2 : ¬ (i : Int) = 0 := by omega
 have a3 : 0 ≤ (i : Int) := by omega
 have a4 : 0 ≤ (i : Int) - 1 := by omega
 have a5 : (i : Int) - 1 < (ks.length : Int) := by omega
 have a6 : 0 ≤ (i : Int) + 1 := by omega
 have a7 : (i : Int) + 1 < (ps.length : Int) := by omega
 have a8 : (i : Int) < (ps.length : Int) := by omega
 have b0 : 0 ≤ (rs'.length : Int) := by omega
 have b1 : (rs'.length : Int) < ((rs'.map (·.f0) ++ [r.f0]).length : Int) := by omega
 have b2 : (rs'.map (·.f0) ++ [r.f0]).length < 8796093022208 := by omega
 have b3 : (rs'.map (·.f1) ++ [r.f1]).length < 17592186044416 := by omega
 have b4 : 0 ≤ (rs'.length : Int) + 1 := by omega
 have b5 : (rs'.length : Int) + 1 < (((rs'.map (·.f0) ++ [r.f0]) ++ [(⟨x.1, x.1⟩ : S36)]).length : Int) := by omega
 have d0 : (rs'.length : Int) = ((rs'.map (·.f0)).length : Int) := by simp
 have hm0 : (rs' ++ [r]).map (·.f0) = rs'.map (·.f0) ++ [r.f0] := by simp
 have hm1 : (rs' ++ [r]).map (·.f1) = rs'.map (·.f1) ++ [r.f1] := by simp
 have wi : wrap64 ((i : Int) + 1) = (i : Int) + 1 := wrap64_small (by omega) (by omega)
 have w1' : wrap64 ((i : Int) - 1) = (i : Int) - 1 := wrap64_small (by omega) (by omega)
 have w2' : wrap64 (((rs'.map (·.f0) ++ [r.f0]).length : Int) - 1) = (rs'.length : Int) := by rw [l0, Int.add_sub_cancel, wrap64_small (by omega) (by omega)]
 have w3' : wrap64 ((((rs'.map (·.f0) ++ [r.f0]) ++ [(⟨x.1, x.1⟩ : S36)]).length : Int) - 1) = (rs'.length : Int) + 1 := by rw [l1, Int.add_sub_cancel, wrap64_small (by omega) (by omega)]
 intro q0 q1 k0 kl e k
 rw [galleyref22_Runs.l0, if_pos a1, if_neg a2, if_pos a3, w1', if_pos a4, if_pos a5, k0, kl, runStep_snoc, e]
 by_cases g : r.f1 = kOf x
 ·rw [if_pos g.symm, if_pos g, wi, if_pos a6, if_pos a7, hm0, w2', if_pos b0, if_pos b1, rd_hit_last (rs'.map (·.f0)) r.f0 (rs'.length : Int) d0, set_hit_last (rs'.map (·.f0)) r.f0 _ (rs'.length : Int) d0, q1]
  simp
 ·rw [if_neg (fun e => g e.symm), if_neg g, if_pos a8, hm0, hm1, if_pos b2, Option.bind_some, if_pos b3, wi, if_pos a6, if_pos a7, q0, q1]
  rw [w3', if_pos b4, if_pos b5, rd_hit_last (rs'.map (·.f0) ++ [r.f0]) ⟨x.1, x.1⟩ ((rs'.length : Int) + 1) l0.symm, set_hit_last (rs'.map (·.f0) ++ [r.f0]) ⟨x.1, x.1⟩ _ ((rs'.length : Int) + 1) l0.symm]
  simp
theorem runs22_l0 {l : List Int} (hb : Bytes l) (hl : l.length ≤ 4398046511103) (T : List PStep) : ∀ (n p : Nat) (pre : List PStep) (rs : List S83), l.length - p = n → p ≤ l.length → T = pre ++ stepsFrom (strOfNums l) p →
  pre.length ≤ p → rs.length ≤ pre.length → RInv pre rs →
  Ev (fun k => galleyref22_Runs.l0 k (rs.map (·.f0)) (rs.map (·.f1)) (pre.length : Int) (T.map (·.1) ++ [(l.length : Int)]) (T.map kOf))
   (((stepsFrom (strOfNums l) p).foldl runStep rs).map (·.f0), ((stepsFrom (strOfNums l) p).foldl runStep rs).map (·.f1)) := by
 intro n
 induction n using Nat.strongRecOn with
 | _ n ih =>
  intro p pre rs hn hp hT h1 h2 hI
  by_cases hlt : p < l.length
  ·obtain ⟨w1, w4, wl⟩ := widL_pos hb p (by omega) hlt
   have hw := ofL_wid hb (by omega) p hlt
   have q0 := rd_places hb (by omega) pre p hp
   have hw2 : wrap64 ((p : Int) + (ofL l p).2.1) = ((p + widL l p : Nat) : Int) := by rw [hw, wrap64_small (by omega) (by omega)]; omega
   obtain ⟨x, hx⟩ : ∃ x : PStep, x = ((p : Int), ofL l p) := ⟨_, rfl⟩
   have hc : stepsFrom (strOfNums l) p = x :: stepsFrom (strOfNums l) (p + widL l p) := by rw [hx]; exact sf_cons hb (by omega) p hlt
   have hT2 : T = (pre ++ [x]) ++ stepsFrom (strOfNums l) (p + widL l p) := by rw [hT, hc]; simp
   have hlen : T.length = pre.length + 1 + (stepsFrom (strOfNums l) (p + widL l p)).length := by rw [hT2]; simp; omega
   have c1 : pre.length < (T.map kOf).length := by simp; omega
   have c3 : pre.length + 1 < (T.map (·.1) ++ [(l.length : Int)]).length := by simp; omega
   have hl1 : ((pre ++ [x]).length : Int) = (pre.length : Int) + 1 := by simp
   have hpl : pre.length ≤ 4398046511103 := by omega
   have hrl := runStep_length rs x
   have hp2 : (pre ++ [x]).length ≤ p + widL l p := by simp; omega
   have hr2 : (runStep rs x).length ≤ (pre ++ [x]).length := by simp; omega
   have hlt2 : l.length - (p + widL l p) < n := by omega
   have hrl3 : rs.length ≤ 4398046511103 := by omega
   have := ih _ hlt2 (p + widL l p) (pre ++ [x]) (runStep rs x) rfl wl hT2 hp2 hr2 (rinv_step hI _)
   have q1 := rd_places hb (by omega) (pre ++ [x]) (p + widL l p) wl
   have hx1 : x.1 = (p : Int) := by rw [hx]
   have e1x : wrap64 (x.1 + x.2.2.1) = ((p + widL l p : Nat) : Int) := by rw [hx]; exact hw2
   rw [List.append_assoc, List.singleton_append, ← hc, ← hT] at q1
   rw [← hT] at q0
   have k0 : rd (T.map kOf) (pre.length : Int) = kOf x := by rw [hT2, List.append_assoc]; exact rd_kinds_at pre _ _
   rw [hc, List.foldl_cons]
   rw [hl1] at this q1
   rcases hI with ⟨rfl, rfl⟩ | ⟨pre', y, rs', r, rfl, rfl, hk⟩
   ·exact Ev.succ this fun k => runs22_first _ _ x _ c1 c3 (q0.trans hx1.symm) q1 k0 e1x k
   ·have kl : rd (T.map kOf) (((pre' ++ [y]).length : Int) - 1) = r.f1 := by rw [hT, hk]; exact rd_kinds_last pre' y _
    refine Ev.succ this fun k => runs22_next _ _ x _ rs' r _ (by simp) hpl ?_ c1 c3 (q0.trans hx1.symm) q1 k0 kl e1x k
    rw [List.length_append] at hrl3
    exact Nat.le_trans (Nat.le_add_right _ _) hrl3
  ·obtain rfl : p = l.length := by omega
   rw [sf_nil _ (Nat.le_refl _), List.append_nil] at hT
   rw [sf_nil _ (Nat.le_refl _)]
   refine Ev.succ (h := fun _ => some (rs.map (·.f0), rs.map (·.f1))) (Ev.pure _) (fun k => ?_)
   rw [galleyref22_Runs.l0, if_neg (by rw [hT]; simp)]
/-- The steps of a text. -/
abbrev stepsL (l : List Int) : List PStep := allSteps (strOfNums l)
theorem of22_ev {l : List Int} (hb : Bytes l) (hl : l.length ≤ 4398046511103) : Ev (fun k => galleyref22_Of.f k l) ((stepsL l).map (·.1) ++ [(l.length : Int)], (stepsL l).map kOf) := by
 have h := of22_l0 hb hl l.length 0 [] [] [] (by omega) (by omega) (by simp) (by simp) (by simp)
 simp only [List.nil_append] at h
 exact Ev.bind (ref_steps hb hl) h
theorem runs22_ev {l : List Int} (hb : Bytes l) (hl : l.length ≤ 4398046511103) : Ev (fun k => galleyref22_Runs.f k l) ((runsOf l).map (·.f0), (runsOf l).map (·.f1)) := by
 have h := runs22_l0 hb hl (stepsL l) l.length 0 [] [] (by omega) (by omega) rfl (by simp) (by simp) (.inl ⟨rfl, rfl⟩)
 exact Ev.bind (of22_ev hb hl) h

end Go.Proofs.YtijbkiajhicooaaDoor.PW

namespace Go.Proofs.YtijbkiajhicooaaDoor.PW
open Go.RowKit Go.Proofs.YtijbkiajhicooaaDoorW.PrintWords Go.Proofs.YtijbkiajhicooaaDoorW.PrintLast Go.Proofs.YtijbkiajhicooaaDoorW.PrintMore
attribute [local go_sem] max2_int min2_int max_two min_two max_three min_three max_four min_four   -- for this text's walks alone
set_option linter.unusedVariables false
set_option linter.unusedSimpArgs false

theorem words_all_l0 (rs : List S83) (hl : rs.length ≤ 4398046511104) : ∀ (n i : Nat) (out : List S36), rs.length - i = n → i ≤ rs.length → out.length ≤ i →
  Ev (fun k => words_All.l0 k out rs (rs.length : Int) (i : Int)) (out ++ ((rs.drop i).filter fun r => r.f1 == 3).map fun r => ⟨r.f0.f0, r.f0.f1⟩) := by
 intro n
 induction n with
 | zero =>
  intro i out hn hi ho
  obtain rfl : i = rs.length := by omega
  refine Ev.succ (h := fun _ => some out) ?_ (fun k => ?_)
  ·simpa using Ev.pure out
  ·rw [words_All.l0, if_neg (by omega)]
 | succ n ih =>
  intro i out hn hi ho
  have hlt : i < rs.length := by omega
  have hw : wrap64 ((i : Int) + 1) = ((i + 1 : Nat) : Int) := by rw [wrap64_small (by omega) (by omega)]; omega
  have hrd : rd_T83 rs (i : Int) = rs[i] := by
   unfold rd_T83
   rw [List.getD_eq_getElem?_getD, Int.toNat_natCast, List.getElem?_eq_getElem hlt]
   rfl
  rw [List.drop_eq_getElem_cons hlt, List.filter_cons]
  by_cases h3 : (rs[i]).f1 = 3
  ·refine Ev.succ (h := fun k => words_All.l0 k (out ++ [⟨(rs[i]).f0.f0, (rs[i]).f0.f1⟩]) rs (rs.length : Int) ((i + 1 : Nat) : Int)) ?_ (fun k => ?_)
   ·rw [if_pos (by simpa using h3)]
    have := ih (i + 1) (out ++ [⟨(rs[i]).f0.f0, (rs[i]).f0.f1⟩]) (by omega) (by omega) (by simp; omega)
    rw [List.append_assoc] at this
    exact this
   ·rw [words_All.l0, if_pos (by omega), if_pos (by omega), if_pos (by omega), hrd, if_pos h3, if_pos (by omega), hw]
  ·refine Ev.succ (h := fun k => words_All.l0 k out rs (rs.length : Int) ((i + 1 : Nat) : Int)) ?_ (fun k => ?_)
   ·rw [if_neg (by simpa using h3)]
    exact ih (i + 1) out (by omega) (by omega) (by omega)
   ·rw [words_All.l0, if_pos (by omega), if_pos (by omega), if_pos (by omega), hrd, if_neg h3, hw]

end Go.Proofs.YtijbkiajhicooaaDoor.PW

namespace Go.Proofs.YtijbkiajhicooaaDoor.PW
open Go.RowKit Go.Proofs.YtijbkiajhicooaaDoorW.PrintWords Go.Proofs.YtijbkiajhicooaaDoorW.PrintLast Go.Proofs.YtijbkiajhicooaaDoorW.PrintMore
attribute [local go_sem] max2_int min2_int max_two min_two max_three min_three max_four min_four   -- for this text's walks alone
set_option linter.unusedVariables false
set_option linter.unusedSimpArgs false

theorem rd_map_hit (rs : List S83) (i : Nat) (h : i < rs.length) : rd_T36 (rs.map (·.f0)) (i : Int) = rs[i].f0 := by
 unfold rd_T36
 rw [List.getD_eq_getElem?_getD, Int.toNat_natCast, List.getElem?_map, List.getElem?_eq_getElem h]
 rfl
theorem rd_map_kind (rs : List S83) (i : Nat) (h : i < rs.length) : rd (rs.map (·.f1)) (i : Int) = rs[i].f1 := by
 unfold rd
 rw [List.getD_eq_getElem?_getD, Int.toNat_natCast, List.getElem?_map, List.getElem?_eq_getElem h]
 rfl
theorem all22_l0 (rs : List S83) (hl : rs.length ≤ 4398046511104) : ∀ (n i : Nat) (out : List S36), rs.length - i = n → i ≤ rs.length → out.length ≤ i →
  Ev (fun k => galleyref22_All.l0 k (rs.map (·.f0)) (rs.map (·.f1)) out (i : Int)) (out ++ ((rs.drop i).filter fun r => r.f1 == 3).map (·.f0)) := by
 intro n
 induction n with
 | zero =>
  intro i out hn hi ho
  obtain rfl : i = rs.length := by omega
  refine Ev.succ (h := fun _ => some out) ?_ (fun k => ?_)
  ·simpa using Ev.pure out
  ·rw [galleyref22_All.l0, if_neg (by simp)]
 | succ n ih =>
  intro i out hn hi ho
  have hlt : i < rs.length := by omega
  have hw : wrap64 ((i : Int) + 1) = ((i + 1 : Nat) : Int) := by rw [wrap64_small (by omega) (by omega)]; omega
  have c1 : (i : Int) < ((rs.map (·.f0)).length : Int) := by simp; omega
  have c2 : (i : Int) < ((rs.map (·.f1)).length : Int) := by simp; omega
  have c3 : (0 : Int) ≤ (i : Int) := by omega
  have c4 : out.length < 8796093022208 := by omega
  have ih1 := ih (i + 1) (out ++ [rs[i].f0]) (by omega) (by omega) (by simp; omega)
  have ih2 := ih (i + 1) out (by omega) (by omega) (by omega)
  have h1 := rd_map_hit rs i hlt
  have h2 := rd_map_kind rs i hlt
  rw [List.drop_eq_getElem_cons hlt, List.filter_cons]
  by_cases h3 : rs[i].f1 = 3
  ·refine Ev.succ (h := fun k => galleyref22_All.l0 k (rs.map (·.f0)) (rs.map (·.f1)) (out ++ [rs[i].f0]) ((i + 1 : Nat) : Int)) ?_ (fun k => ?_)
   ·rw [if_pos (by simpa using h3)]
    rw [List.append_assoc] at ih1
    exact ih1
   ·rw [galleyref22_All.l0, if_pos c1, if_pos c3, if_pos c2, h1, h2, if_pos h3, if_pos c4, hw]
  ·refine Ev.succ (h := fun k => galleyref22_All.l0 k (rs.map (·.f0)) (rs.map (·.f1)) out ((i + 1 : Nat) : Int)) ?_ (fun k => ?_)
   ·rw [if_neg (by simpa using h3)]
    exact ih2
   ·rw [galleyref22_All.l0, if_pos c1, if_pos c3, if_pos c2, h2, if_neg h3, hw]
/-- The words' pieces. -/
def wordsOf (l : List Int) : List S36 := ((runsOf l).filter fun r => r.f1 == 3).map (·.f0)
theorem runsOf_length (l : List Int) : (runsOf l).length ≤ l.length := by
 have h1 := runs_length (stepsL l) []
 have h2 := stepsFrom_length (strOfNums l) 0
 rw [strOfNums_size] at h2
 unfold runsOf
 unfold stepsL allSteps at h1
 unfold allSteps
 simp only [List.length_nil] at h1
 omega
theorem wordsOf_length (l : List Int) : (wordsOf l).length ≤ l.length := by
 unfold wordsOf
 rw [List.length_map]
 exact Nat.le_trans (List.length_filter_le _ _) (runsOf_length l)
theorem ref_all_ev {l : List Int} (hb : Bytes l) (hl : l.length ≤ 4398046511103) : Ev (fun k => galleyref22_All.f k l) (wordsOf l) := by
 have hr := runsOf_length l
 have h := all22_l0 (runsOf l) (by omega) (runsOf l).length 0 [] (by omega) (by omega) (by simp)
 exact Ev.bind (runs22_ev hb hl) h
theorem words_all_ev {l : List Int} (hl : l.length ≤ 4398046511103) : Ev (fun k => words_All.f k l) (wordsOf l) := by
 have hr := runsOf_length l
 have h := words_all_l0 (runsOf l) (by omega) (runsOf l).length 0 [] (by omega) (by omega) (by simp)
 have e : words_runs.f l = some (runsOf l) := by unfold words_runs.f; rw [if_pos (by omega)]
 refine Ev.bind (Ev.of_eq fun _ => e) ?_
 exact h
theorem own_some (l : List Int) (hl : l.length ≤ 4398046511103) : galleylaw22_own.f l = some l := by
 unfold galleylaw22_own.f
 rw [Option.bind_some, if_pos (by simp; omega), List.nil_append]
end Go.Proofs.YtijbkiajhicooaaDoor.PW
namespace Go.Proofs.YtijbkiajhicooaaDoor.Pure
open Go.Proofs.YtijbkiajhicooaaDoor.PW Go.RowKit
end Go.Proofs.YtijbkiajhicooaaDoor.Pure
namespace Go.Proofs.YtijbkiajhicooaaDoor.PW

end Go.Proofs.YtijbkiajhicooaaDoor.PW

namespace Go.Proofs.YtijbkiajhicooaaDoor.PW
open Go.RowKit Go.Proofs.YtijbkiajhicooaaDoorW.PrintWords Go.Proofs.YtijbkiajhicooaaDoorW.PrintLast Go.Proofs.YtijbkiajhicooaaDoorW.PrintMore
attribute [local go_sem] max2_int min2_int max_two min_two max_three min_three max_four min_four   -- for this text's walks alone
set_option linter.unusedVariables false
set_option linter.unusedSimpArgs false

theorem longOf_one {x y z w : Int} (h : isOne x) : longOf x y z w = 1 := by
 rcases longOf_cases x y z w with ⟨g, e⟩ | ⟨g, e⟩ | ⟨g, e⟩ | ⟨g, e⟩ | ⟨g, _⟩
 ·exact e
 ·unfold isOne at h; unfold isTwo at g; omega
 ·unfold isOne at h; unfold isThree at g; omega
 ·unfold isOne at h; unfold isFour at g; omega
 ·exact absurd h g
theorem longOf_two {x y z w : Int} (h : isTwo x y) : longOf x y z w = 2 := by
 rcases longOf_cases x y z w with ⟨g, e⟩ | ⟨g, e⟩ | ⟨g, e⟩ | ⟨g, e⟩ | ⟨_, g, _⟩
 ·unfold isTwo at h; unfold isOne at g; omega
 ·exact e
 ·unfold isTwo at h; unfold isThree at g; omega
 ·unfold isTwo at h; unfold isFour at g; omega
 ·exact absurd h g
theorem longOf_three {x y z w : Int} (h : isThree x y z) : longOf x y z w = 3 := by
 rcases longOf_cases x y z w with ⟨g, e⟩ | ⟨g, e⟩ | ⟨g, e⟩ | ⟨g, e⟩ | ⟨_, _, g, _⟩
 ·unfold isThree at h; unfold isOne at g; omega
 ·unfold isThree at h; unfold isTwo at g; omega
 ·exact e
 ·unfold isThree at h; unfold isFour at g; omega
 ·exact absurd h g
theorem longOf_none {x y z w : Int} (h1 : ¬ isOne x) (h2 : ¬ isTwo x y) (h3 : ¬ isThree x y z) (h4 : ¬ isFour x y z w) : longOf x y z w = 0 := by
 rcases longOf_cases x y z w with ⟨g, e⟩ | ⟨g, e⟩ | ⟨g, e⟩ | ⟨g, e⟩ | ⟨_, _, _, _, e⟩
 ·exact absurd g h1
 ·exact absurd g h2
 ·exact absurd g h3
 ·exact absurd g h4
 ·exact e
theorem atI_slice (l : List Int) (S E q : Nat) : atI ((l.take E).drop S) (q : Int) = if S + q < E then atI l (S + q : Nat) else -1 := by
 rw [atI_drop]
 by_cases h : S + q < E
 ·rw [if_pos h]
  unfold atI rd
  simp only [List.length_take, Int.toNat_natCast, List.getD_eq_getElem?_getD, List.getElem?_take]
  rw [if_pos h]
  by_cases g : S + q < l.length
  ·rw [if_neg (by omega), if_neg (by omega)]
  ·rw [if_pos (by omega), if_pos (by omega)]
 ·rw [if_neg h]
  exact atI_out _ _ (by simp; omega)
/-- The piece from S to E. -/
abbrev piece (l : List Int) (S E : Nat) : List Int := (l.take E).drop S
theorem piece_len (l : List Int) (S E : Nat) (h : E ≤ l.length) : (piece l S E).length = E - S := by simp; omega
theorem Bytes.piece {l : List Int} (h : Bytes l) (S E : Nat) : Bytes (piece l S E) := fun x hx => h x (List.mem_of_mem_take (List.mem_of_mem_drop hx))
theorem long_slice {l : List Int} (hb : Bytes l) (hl : l.length ≤ 4398046511104) (S E p : Nat) (hS : S ≤ p) (hp : p < E) (hE : E ≤ l.length) (hw : p + widL l p ≤ E) :
  longAt (piece l S E) ((p - S : Nat) : Int) = longAt l (p : Int) ∧ ofL (piece l S E) (p - S) = ofL l p := by
 have h0 := atI_slice l S E (p - S)
 have h1 := atI_slice l S E (p - S + 1)
 have h2 := atI_slice l S E (p - S + 2)
 have h3 := atI_slice l S E (p - S + 3)
 rw [if_pos (by omega), show S + (p - S) = p by omega] at h0
 rw [show S + (p - S + 1) = p + 1 by omega] at h1
 rw [show S + (p - S + 2) = p + 2 by omega] at h2
 rw [show S + (p - S + 3) = p + 3 by omega] at h3
 have hL := longAt_nat l p (by omega)
 have hL' := longAt_nat (piece l S E) (p - S) (by omega)
 obtain ⟨x, hx⟩ : ∃ x, atI l (p : Int) = x := ⟨_, rfl⟩
 obtain ⟨y, hy⟩ : ∃ x, atI l (p + 1 : Nat) = x := ⟨_, rfl⟩
 obtain ⟨z, hz⟩ : ∃ x, atI l (p + 2 : Nat) = x := ⟨_, rfl⟩
 obtain ⟨v, hv⟩ : ∃ x, atI l (p + 3 : Nat) = x := ⟨_, rfl⟩
 obtain ⟨y', hy'⟩ : ∃ x, atI (piece l S E) (p - S + 1 : Nat) = x := ⟨_, rfl⟩
 obtain ⟨z', hz'⟩ : ∃ x, atI (piece l S E) (p - S + 2 : Nat) = x := ⟨_, rfl⟩
 obtain ⟨v', hv'⟩ : ∃ x, atI (piece l S E) (p - S + 3 : Nat) = x := ⟨_, rfl⟩
 have hx' : atI (piece l S E) ((p - S : Nat) : Int) = x := h0.trans hx
 replace h1 := hy'.symm.trans h1
 replace h2 := hz'.symm.trans h2
 replace h3 := hv'.symm.trans h3
 rw [hy] at h1
 rw [hz] at h2
 rw [hv] at h3
 rw [hx, hy, hz, hv] at hL
 rw [hx', hy', hz', hv'] at hL'
 unfold widL at hw
 rw [hL] at hw
 unfold ofL
 rw [hL, hL', hx, hy, hz, hv, hx', hy', hz', hv']
 clear hL hL' hx hy hz hv hx' hy' hz' hv' h0
 rcases longOf_cases x y z v with ⟨g, e⟩ | ⟨g, e⟩ | ⟨g, e⟩ | ⟨g, e⟩ | ⟨g1, g2, g3, g4, e⟩
 ·have e' : longOf x y' z' v' = 1 := longOf_one g
  rw [e, e']
  refine ⟨rfl, ?_⟩
  unfold runeV
  rw [e, e']
  rfl
 ·rw [e, if_neg (by decide)] at hw
  replace hw : p + 2 ≤ E := hw
  rw [if_pos (by omega)] at h1
  subst h1
  have e' : longOf x y' z' v' = 2 := longOf_two g
  rw [e, e']
  refine ⟨rfl, ?_⟩
  unfold runeV
  rw [e, e']
  rfl
 ·rw [e, if_neg (by decide)] at hw
  replace hw : p + 3 ≤ E := hw
  rw [if_pos (by omega)] at h1 h2
  subst h1 h2
  have e' : longOf x y' z' v' = 3 := longOf_three g
  rw [e, e']
  refine ⟨rfl, ?_⟩
  unfold runeV
  rw [e, e']
  rfl
 ·rw [e, if_neg (by decide)] at hw
  replace hw : p + 4 ≤ E := hw
  rw [if_pos (by omega)] at h1 h2 h3
  subst h1 h2 h3
  exact ⟨rfl, rfl⟩
 ·have i1 : y' = y ∨ y' = -1 := by rw [h1]; split <;> simp
  have i2 : z' = z ∨ z' = -1 := by rw [h2]; split <;> simp
  have i3 : v' = v ∨ v' = -1 := by rw [h3]; split <;> simp
  have e' : longOf x y' z' v' = 0 := by
   unfold isTwo at g2
   unfold isThree at g3
   unfold isFour at g4
   refine longOf_none g1 ?_ ?_ ?_
   ·unfold isTwo; omega
   ·unfold isThree; omega
   ·unfold isFour; omega
  rw [e, e']
  exact ⟨rfl, rfl⟩
theorem wid_slice {l : List Int} (hb : Bytes l) (hl : l.length ≤ 4398046511104) (S E p : Nat) (hS : S ≤ p) (hp : p < E) (hE : E ≤ l.length) (hw : p + widL l p ≤ E) : widL (piece l S E) (p - S) = widL l p := by
 unfold widL
 rw [(long_slice hb hl S E p hS hp hE hw).1]
/-- E is an edge behind p: steps from p on come to it. -/
inductive Reach (l : List Int) (E : Nat) : Nat → Prop
 | here : Reach l E E
 | step {p : Nat} : p < E → E ≤ l.length → Reach l E (p + widL l p) → Reach l E p
theorem Reach.le {l : List Int} {E p : Nat} (h : Reach l E p) : p ≤ E := by
 induction h with
 | here => exact Nat.le_refl _
 | step h1 _ _ _ => omega
/-- A place where a step begins is come to from every such place ahead of it. -/
theorem reach_vis {l : List Int} (hb : Bytes l) (hl : l.length ≤ 4398046511104) (E : Nat) (hE : E ≤ l.length) (hv : Vis l E) : ∀ (n p : Nat), E - p = n → p ≤ E → Reach l E p := by
 intro n
 induction n using Nat.strongRecOn with
 | _ n ih =>
  intro p hn hp
  by_cases h : p = E
  ·subst h; exact .here
  ·obtain ⟨w1, w4, wl⟩ := widL_pos hb p hl (by omega)
   have : p + widL l p ≤ E := by
    refine Nat.le_of_not_lt fun hlt => ?_
    have h3 := hv (E - p) (by omega) (by omega) (by omega)
    rw [show E - (E - p) = p by omega] at h3
    have := longAt_facts hb p hl (by omega)
    unfold widL at hlt
    by_cases g : longAt l (p : Int) = 0
    ·rw [if_pos g] at hlt; omega
    ·rw [if_neg g] at hlt; omega
   exact .step (by omega) hE (ih (E - (p + widL l p)) (by omega) _ rfl this)

end Go.Proofs.YtijbkiajhicooaaDoor.PW

namespace Go.Proofs.YtijbkiajhicooaaDoor.PW
open Go.RowKit Go.Proofs.YtijbkiajhicooaaDoorW.PrintWords Go.Proofs.YtijbkiajhicooaaDoorW.PrintLast Go.Proofs.YtijbkiajhicooaaDoorW.PrintMore
attribute [local go_sem] max2_int min2_int max_two min_two max_three min_three max_four min_four   -- for this text's walks alone
set_option linter.unusedVariables false
set_option linter.unusedSimpArgs false

theorem outside_ev (l : List Int) (a : Int) : words_outside.f l a = some (decide (a < 0 ∨ a > (l.length : Int))) := by
 unfold words_outside.f
 by_cases h : a < 0
 ·rw [if_pos h, decide_eq_true (.inl h)]
 ·rw [if_neg h]
  by_cases g : a > (l.length : Int)
  ·rw [decide_eq_true g, decide_eq_true (.inr g)]
  ·rw [decide_eq_false g, decide_eq_false (by omega)]
theorem rd_hit (ws : List S36) (i : Nat) (h : i < ws.length) : rd_T36 ws (i : Int) = ws[i] := by
 unfold rd_T36
 rw [List.getD_eq_getElem?_getD, Int.toNat_natCast, List.getElem?_eq_getElem h]
 rfl
def nextOf (len a : Int) : List S36 → Int
 | [] => len
 | h :: t => if h.f0 > a then h.f0 else nextOf len a t
def prevOf (a : Int) : List S36 → Int → Int
 | [], b => b
 | h :: t, b => prevOf a t (if h.f0 < a then h.f0 else b)
theorem next_l0 (l : List Int) (a : Int) (ws : List S36) (hl : ws.length ≤ 4398046511104) : ∀ (n i : Nat), ws.length - i = n → i ≤ ws.length →
  Ev (fun k => words_Next.l0 k l a ws (ws.length : Int) (i : Int)) (nextOf (l.length : Int) a (ws.drop i), 0) := by
 intro n
 induction n with
 | zero =>
  intro i hn hi
  obtain rfl : i = ws.length := by omega
  rw [List.drop_length]
  refine Ev.succ (h := fun _ => some ((l.length : Int), 0)) (Ev.pure _) (fun k => ?_)
  rw [words_Next.l0, if_neg (by omega)]
 | succ n ih =>
  intro i hn hi
  have hlt : i < ws.length := by omega
  have hw : wrap64 ((i : Int) + 1) = ((i + 1 : Nat) : Int) := by rw [wrap64_small (by omega) (by omega)]; omega
  have c1 : (i : Int) < (ws.length : Int) := by omega
  have c3 : (0 : Int) ≤ (i : Int) := by omega
  have ih1 := ih (i + 1) (by omega) (by omega)
  have h1 := rd_hit ws i hlt
  rw [List.drop_eq_getElem_cons hlt]
  by_cases g : (ws[i]).f0 > a
  ·simp only [nextOf, if_pos g]
   refine Ev.succ (h := fun _ => some ((ws[i]).f0, 0)) (Ev.pure _) (fun k => ?_)
   rw [words_Next.l0, if_pos c1, if_pos c3, if_pos c1, h1, if_pos g]
  ·simp only [nextOf, if_neg g]
   refine Ev.succ ih1 (fun k => ?_)
   rw [words_Next.l0, if_pos c1, if_pos c3, if_pos c1, h1, if_neg g, hw]
theorem prev_l0 (a : Int) (ws : List S36) (hl : ws.length ≤ 4398046511104) : ∀ (n i : Nat) (b : Int), ws.length - i = n → i ≤ ws.length →
  Ev (fun k => words_Prev.l0 k a b ws (ws.length : Int) (i : Int)) (prevOf a (ws.drop i) b, 0) := by
 intro n
 induction n with
 | zero =>
  intro i b hn hi
  obtain rfl : i = ws.length := by omega
  rw [List.drop_length]
  refine Ev.succ (h := fun _ => some (b, 0)) (Ev.pure _) (fun k => ?_)
  rw [words_Prev.l0, if_neg (by omega)]
 | succ n ih =>
  intro i b hn hi
  have hlt : i < ws.length := by omega
  have hw : wrap64 ((i : Int) + 1) = ((i + 1 : Nat) : Int) := by rw [wrap64_small (by omega) (by omega)]; omega
  have c1 : (i : Int) < (ws.length : Int) := by omega
  have c3 : (0 : Int) ≤ (i : Int) := by omega
  have ih1 := fun b => ih (i + 1) b (by omega) (by omega)
  have h1 := rd_hit ws i hlt
  rw [List.drop_eq_getElem_cons hlt]
  by_cases g : (ws[i]).f0 < a
  ·simp only [prevOf, if_pos g]
   refine Ev.succ (ih1 _) (fun k => ?_)
   rw [words_Prev.l0, if_pos c1, if_pos c3, if_pos c1, h1, if_pos g, hw]
  ·simp only [prevOf, if_neg g]
   refine Ev.succ (ih1 _) (fun k => ?_)
   rw [words_Prev.l0, if_pos c1, if_pos c3, if_pos c1, h1, if_neg g, hw]
/-- The answers of Next and Prev. -/
def goNext (l : List Int) (a : Int) : Int × Int := if a < 0 ∨ a > (l.length : Int) then (0, 2) else (nextOf (l.length : Int) a (wordsOf l), 0)
def goPrev (l : List Int) (a : Int) : Int × Int := if a < 0 ∨ a > (l.length : Int) then (0, 2) else (prevOf a (wordsOf l) 0, 0)
theorem words_next_ev {l : List Int} (hl : l.length ≤ 4398046511103) (a : Int) : Ev (fun k => words_Next.f k l a) (goNext l a) := by
 refine Ev.bind (Ev.of_eq fun _ => outside_ev l a) ?_
 have hlen := wordsOf_length l
 unfold goNext
 by_cases h : a < 0 ∨ a > (l.length : Int)
 ·rw [if_pos h]
  exact Ev.of_eq fun _ => if_pos (decide_eq_true h)
 ·rw [if_neg h]
  refine Ev.congr (Ev.bind (h := fun k t => words_Next.l0 k l a t (t.length : Int) 0) (words_all_ev hl) (next_l0 l a (wordsOf l) (by omega) _ 0 rfl (by omega))) (fun k => ?_)
  exact if_neg (by rw [decide_eq_false h]; decide)
theorem words_prev_ev {l : List Int} (hl : l.length ≤ 4398046511103) (a : Int) : Ev (fun k => words_Prev.f k l a) (goPrev l a) := by
 refine Ev.bind (Ev.of_eq fun _ => outside_ev l a) ?_
 have hlen := wordsOf_length l
 unfold goPrev
 by_cases h : a < 0 ∨ a > (l.length : Int)
 ·rw [if_pos h]
  exact Ev.of_eq fun _ => if_pos (decide_eq_true h)
 ·rw [if_neg h]
  refine Ev.congr (Ev.bind (h := fun k t => words_Prev.l0 k a 0 t (t.length : Int) 0) (words_all_ev hl) (prev_l0 a (wordsOf l) (by omega) _ 0 0 rfl (by omega))) (fun k => ?_)
  exact if_neg (by rw [decide_eq_false h]; decide)
end Go.Proofs.YtijbkiajhicooaaDoor.PW
namespace Go.Proofs.YtijbkiajhicooaaDoor.Pure
open Go.Proofs.YtijbkiajhicooaaDoor.PW Go.RowKit
end Go.Proofs.YtijbkiajhicooaaDoor.Pure
namespace Go.Proofs.YtijbkiajhicooaaDoor.PW

end Go.Proofs.YtijbkiajhicooaaDoor.PW

namespace Go.Proofs.YtijbkiajhicooaaDoor.PW
open Go.RowKit Go.Proofs.YtijbkiajhicooaaDoorW.PrintWords Go.Proofs.YtijbkiajhicooaaDoorW.PrintLast Go.Proofs.YtijbkiajhicooaaDoorW.PrintMore
attribute [local go_sem] max2_int min2_int max_two min_two max_three min_three max_four min_four   -- for this text's walks alone
set_option linter.unusedVariables false
set_option linter.unusedSimpArgs false

theorem rd_run (rs : List S83) (i : Nat) (h : i < rs.length) : rd_T83 rs (i : Int) = rs[i] := by
 unfold rd_T83
 rw [List.getD_eq_getElem?_getD, Int.toNat_natCast, List.getElem?_eq_getElem h]
 rfl
/-- The first run that ends behind the place, or the last one. -/
def aroundOf (a : Int) : List S83 → Int × Int × Int → Int × Int × Int
 | [], b => b
 | r :: t, _ => if a < r.f0.f1 then (r.f0.f0, r.f0.f1, r.f1) else aroundOf a t (r.f0.f0, r.f0.f1, r.f1)
abbrev with0 (x : Int × Int × Int) : Int × Int × Int × Int := (x.1, x.2.1, x.2.2, 0)
theorem around_l0 (a : Int) (rs : List S83) (hl : rs.length ≤ 4398046511104) : ∀ (n i : Nat) (b : Int × Int × Int), rs.length - i = n → i ≤ rs.length →
  Ev (fun k => words_Around.l0 k a rs (rs.length : Int) (i : Int) b.1 b.2.1 b.2.2) (with0 (aroundOf a (rs.drop i) b)) := by
 intro n
 induction n with
 | zero =>
  intro i b hn hi
  obtain rfl : i = rs.length := by omega
  rw [List.drop_length]
  refine Ev.succ (h := fun _ => some (with0 b)) (Ev.pure _) (fun k => ?_)
  rw [words_Around.l0, if_neg (by omega)]
 | succ n ih =>
  intro i b hn hi
  have hlt : i < rs.length := by omega
  have hw : wrap64 ((i : Int) + 1) = ((i + 1 : Nat) : Int) := by rw [wrap64_small (by omega) (by omega)]; omega
  have c1 : (i : Int) < (rs.length : Int) := by omega
  have c3 : (0 : Int) ≤ (i : Int) := by omega
  have ih1 := fun b => ih (i + 1) b (by omega) (by omega)
  have h1 := rd_run rs i hlt
  rw [List.drop_eq_getElem_cons hlt]
  by_cases g : a < (rs[i]).f0.f1
  ·simp only [aroundOf, if_pos g]
   refine Ev.succ (h := fun _ => some (with0 ((rs[i]).f0.f0, (rs[i]).f0.f1, (rs[i]).f1))) (Ev.pure _) (fun k => ?_)
   rw [words_Around.l0, if_pos c1, if_pos c3, if_pos c1, h1, if_pos g]
  ·simp only [aroundOf, if_neg g]
   refine Ev.succ (ih1 ((rs[i]).f0.f0, (rs[i]).f0.f1, (rs[i]).f1)) (fun k => ?_)
   rw [words_Around.l0, if_pos c1, if_pos c3, if_pos c1, h1, if_neg g, hw]
/-- The answer of Around. -/
def aroundAt (l : List Int) (a : Int) : Int × Int × Int × Int := if a < 0 ∨ a > (l.length : Int) then (0, 0, 0, 2) else with0 (aroundOf a (runsOf l) (0, 0, 0))
theorem words_around_ev {l : List Int} (hl : l.length ≤ 4398046511103) (a : Int) : Ev (fun k => words_Around.f k l a) (aroundAt l a) := by
 refine Ev.bind (Ev.of_eq fun _ => outside_ev l a) ?_
 have hlen := runsOf_length l
 have e : words_runs.f l = some (runsOf l) := by unfold words_runs.f; rw [if_pos (by omega)]
 unfold aroundAt
 by_cases h : a < 0 ∨ a > (l.length : Int)
 ·rw [if_pos h]
  exact Ev.of_eq fun _ => if_pos (decide_eq_true h)
 ·rw [if_neg h]
  refine Ev.congr (Ev.bind (h := fun k t => words_Around.l0 k a t (t.length : Int) 0 0 0 0) (Ev.of_eq fun _ => e) (around_l0 a (runsOf l) (by omega) _ 0 (0, 0, 0) rfl (by omega))) (fun k => ?_)
  exact if_neg (by rw [decide_eq_false h]; decide)
end Go.Proofs.YtijbkiajhicooaaDoor.PW
namespace Go.Proofs.YtijbkiajhicooaaDoor.Pure
open Go.Proofs.YtijbkiajhicooaaDoor.PW Go.RowKit
end Go.Proofs.YtijbkiajhicooaaDoor.Pure
namespace Go.Proofs.YtijbkiajhicooaaDoor.PW

end Go.Proofs.YtijbkiajhicooaaDoor.PW

namespace Go.Proofs.YtijbkiajhicooaaDoor.PW
open Go.RowKit Go.Proofs.YtijbkiajhicooaaDoorW.PrintWords Go.Proofs.YtijbkiajhicooaaDoorW.PrintLast Go.Proofs.YtijbkiajhicooaaDoorW.PrintMore
attribute [local go_sem] max2_int min2_int max_two min_two max_three min_three max_four min_four   -- for this text's walks alone
set_option linter.unusedVariables false
set_option linter.unusedSimpArgs false

/-- No line end stands from a on and ahead of b. -/
def PlainTo (l : List Int) (a b : Int) : Prop := ∀ q : Int, a ≤ q → q < b → rd l q ≠ 10 ∧ rd l q ≠ 13
/-- A line that is not the last one ends with a line end. -/
def EndsAt (l : List Int) (r : S127) : Prop :=
 (r.f1 < (l.length : Int) ∧ rd l r.f1 = 10 ∧ r.f2 = r.f1 ∧ r.f3 = r.f1 + 1) ∨
 (r.f1 + 1 < (l.length : Int) ∧ rd l r.f1 = 13 ∧ rd l (r.f1 + 1) = 10 ∧ r.f2 = r.f1 + 1 ∧ r.f3 = r.f1 + 2) ∨
 (r.f1 < (l.length : Int) ∧ rd l r.f1 = 13 ∧ ¬ (r.f1 + 1 < (l.length : Int) ∧ rd l (r.f1 + 1) = 10) ∧ r.f2 = r.f1 ∧ r.f3 = r.f1 + 1)
/-- Lines from a place on. -/
def LChain (l : List Int) : Int → List S127 → Prop
 | _, [] => False
 | a, r :: rs => r.f0 = a ∧ a ≤ r.f1 ∧ PlainTo l a r.f1 ∧ ((rs = [] ∧ r.f1 = (l.length : Int) ∧ r.f2 = (l.length : Int) ∧ r.f3 = (l.length : Int)) ∨ (EndsAt l r ∧ LChain l r.f3 rs))
theorem lineAt_out (l : List Int) : ∀ (k : Nat) (start i : Int) (out : List S127), lineAt l k start i out = out ++ lineAt l k start i [] := by
 intro k
 induction k with
 | zero => intro start i out; simp [lineAt]
 | succ k ih =>
  intro start i out
  simp only [lineAt]
  by_cases h : i < (l.length : Int)
  ·rw [if_pos h, if_pos h]
   by_cases h1 : rd l i = 10
   ·rw [if_pos h1, if_pos h1, ih _ _ (out ++ _), ih _ _ ([] ++ _)]
    simp
   ·rw [if_neg h1, if_neg h1]
    by_cases h2 : rd l i = 13
    ·rw [if_pos h2, if_pos h2]
     by_cases h3 : i + 1 < (l.length : Int) ∧ rd l (i + 1) = 10
     ·rw [if_pos h3, if_pos h3, ih _ _ (out ++ _), ih _ _ ([] ++ _)]
      simp
     ·rw [if_neg h3, if_neg h3, ih _ _ (out ++ _), ih _ _ ([] ++ _)]
      simp
    ·rw [if_neg h2, if_neg h2]
     exact ih _ _ out
  ·rw [if_neg h, if_neg h]
   simp
theorem lineAt_chain (l : List Int) : ∀ (k : Nat) (start i : Int), 0 ≤ start → start ≤ i → i ≤ (l.length : Int) → (l.length : Int) - i < k → PlainTo l start i → LChain l start (lineAt l k start i []) := by
 intro k
 induction k with
 | zero => intro start i h0 h1 h2 h3; omega
 | succ k ih =>
  intro start i h0 h1 h2 h3 hp
  simp only [lineAt]
  by_cases h : i < (l.length : Int)
  ·rw [if_pos h]
   by_cases g1 : rd l i = 10
   ·rw [if_pos g1, lineAt_out]
    refine ⟨rfl, h1, hp, .inr ⟨.inl ⟨h, g1, rfl, rfl⟩, ih (i + 1) (i + 1) (by omega) (Int.le_refl _) (by omega) (by omega) (fun q a b => by omega)⟩⟩
   ·rw [if_neg g1]
    by_cases g2 : rd l i = 13
    ·rw [if_pos g2]
     by_cases g3 : i + 1 < (l.length : Int) ∧ rd l (i + 1) = 10
     ·rw [if_pos g3, lineAt_out]
      exact ⟨rfl, h1, hp, .inr ⟨.inr (.inl ⟨g3.1, g2, g3.2, rfl, rfl⟩), ih (i + 2) (i + 2) (by omega) (Int.le_refl _) (by omega) (by omega) (fun q a b => by omega)⟩⟩
     ·rw [if_neg g3, lineAt_out]
      exact ⟨rfl, h1, hp, .inr ⟨.inr (.inr ⟨h, g2, g3, rfl, rfl⟩), ih (i + 1) (i + 1) (by omega) (Int.le_refl _) (by omega) (by omega) (fun q a b => by omega)⟩⟩
    ·rw [if_neg g2]
     refine ih start (i + 1) h0 (by omega) (by omega) (by omega) (fun q a b => ?_)
     by_cases e : q = i
     ·rw [e]; exact ⟨g1, g2⟩
     ·exact hp q a (by omega)
  ·rw [if_neg h]
   obtain rfl : i = (l.length : Int) := by omega
   exact ⟨rfl, h1, hp, .inl ⟨rfl, rfl, rfl, rfl⟩⟩
theorem allLines_chain (l : List Int) : LChain l 0 (allLines l) :=
 lineAt_chain l _ 0 0 (Int.le_refl _) (Int.le_refl _) (by omega) (by omega) (fun q a b => by omega)

end Go.Proofs.YtijbkiajhicooaaDoor.PW

namespace Go.Proofs.YtijbkiajhicooaaDoor.PW
open Go.RowKit Go.Proofs.YtijbkiajhicooaaDoorW.PrintWords Go.Proofs.YtijbkiajhicooaaDoorW.PrintLast Go.Proofs.YtijbkiajhicooaaDoorW.PrintMore
attribute [local go_sem] max2_int min2_int max_two min_two max_three min_three max_four min_four   -- for this text's walks alone
set_option linter.unusedVariables false
set_option linter.unusedSimpArgs false

/-- Does a line begin at the place? -/
def startsB (l : List Int) (p : Nat) : Bool :=
 if p = 0 then true else if rd l ((p : Int) - 1) = 10 then true else if rd l ((p : Int) - 1) = 13 then (if p = l.length then true else rd l (p : Int) != 10) else false
theorem rd_at {l : List Int} (hb : Bytes l) (p : Nat) (hp : p < l.length) : rd l (p : Int) = atI l (p : Int) := by
 obtain ⟨e, h0, h1⟩ := atI_in hb p hp
 rw [e]
 unfold rd
 simp
/-- A step of a rune below 128 is its byte. -/
theorem rune_byte {l : List Int} (hb : Bytes l) (hl : l.length ≤ 4398046511104) (p : Nat) (hp : p < l.length) (c : Int) (h0 : 0 ≤ c) (h1 : c < 128) :
  ((ofL l p).2.2 = true ∧ (ofL l p).1 = c) ↔ rd l (p : Int) = c := by
 rw [rd_at hb p hp]
 have hlong := longAt_nat l p (by omega)
 unfold ofL
 rw [hlong]
 obtain ⟨x, hx⟩ : ∃ x, atI l (p : Int) = x := ⟨_, rfl⟩
 obtain ⟨y, hy⟩ : ∃ x, atI l (p + 1 : Nat) = x := ⟨_, rfl⟩
 obtain ⟨z, hz⟩ : ∃ x, atI l (p + 2 : Nat) = x := ⟨_, rfl⟩
 obtain ⟨v, hv⟩ : ∃ x, atI l (p + 3 : Nat) = x := ⟨_, rfl⟩
 rw [hx, hy, hz, hv]
 clear hlong hx hy hz hv
 rcases longOf_cases x y z v with ⟨h, e⟩ | ⟨h, e⟩ | ⟨h, e⟩ | ⟨h, e⟩ | ⟨g1, g2, g3, g4, e⟩
 ·have hr : runeV x y z v = x := by simp [runeV, e]
  rw [hr, e, if_neg (by decide)]
  simp
 ·have hr : runeV x y z v = x % 32 * 64 + y % 64 := by simp [runeV, e]
  unfold isTwo at h
  rw [hr, e, if_neg (by decide)]
  exact ⟨fun g => by have := g.2; simp only at this; omega, fun g => by omega⟩
 ·have hr : runeV x y z v = x % 16 * 4096 + y % 64 * 64 + z % 64 := by simp [runeV, e]
  unfold isThree at h
  rw [hr, e, if_neg (by decide)]
  exact ⟨fun g => by have := g.2; simp only at this; omega, fun g => by omega⟩
 ·have hr : runeV x y z v = x % 8 * 262144 + y % 64 * 4096 + z % 64 * 64 + v % 64 := by simp [runeV, e]
  unfold isFour at h
  rw [hr, e, if_neg (by decide)]
  exact ⟨fun g => by have := g.2; simp only at this; omega, fun g => by omega⟩
 ·rw [e, if_pos rfl]
  unfold isOne at g1
  exact ⟨fun g => by simp at g, fun g => by omega⟩
theorem kind_end {l : List Int} (hb : Bytes l) (hl : l.length ≤ 4398046511104) (p : Nat) (hp : p < l.length) : kindOf (ofL l p).1 (ofL l p).2.2 = 2 ↔ (rd l (p : Int) = 10 ∨ rd l (p : Int) = 13) := by
 have h10 := rune_byte hb hl p hp 10 (by decide) (by decide)
 have h13 := rune_byte hb hl p hp 13 (by decide) (by decide)
 rw [← h10, ← h13]
 obtain ⟨⟨r, x, b⟩, hx⟩ : ∃ x, ofL l p = x := ⟨_, rfl⟩
 rw [hx]
 clear h10 h13 hx
 unfold kindOf
 cases b with
 | false => simp
 | true =>
  simp only [if_true, true_and]
  by_cases g1 : r = 32 ∨ r = 9
  ·rw [if_pos g1]
   constructor
   ·intro h; omega
   ·intro h; omega
  ·rw [if_neg g1]
   by_cases g2 : r = 10 ∨ r = 13
   ·rw [if_pos g2]
    exact ⟨fun _ => g2, fun _ => rfl⟩
   ·rw [if_neg g2]
    split
    ·exact ⟨fun h => by omega, fun h => absurd h g2⟩
    ·exact ⟨fun h => by omega, fun h => absurd h g2⟩
theorem low_long {l : List Int} (hb : Bytes l) (hl : l.length ≤ 4398046511104) (p : Nat) (hp : p < l.length) (h : rd l (p : Int) < 128) : longAt l (p : Int) = 1 ∧ widL l p = 1 := by
 rw [rd_at hb p hp] at h
 have h0 := (atI_in hb p hp).2.1
 rw [← (atI_in hb p hp).1] at h0
 have : longAt l (p : Int) = 1 := by
  rw [longAt_nat l p (by omega)]
  exact longOf_one ⟨h0, by omega⟩
 refine ⟨this, ?_⟩
 unfold widL
 rw [this]
 rfl
theorem vis_low {l : List Int} (hb : Bytes l) (hl : l.length ≤ 4398046511104) (p : Nat) (hp : p ≤ l.length) (h : p = l.length ∨ rd l (p : Int) < 128) : Vis l p := by
 intro j j1 j3 jp
 refine Int.not_lt.1 fun hlt => ?_
 obtain ⟨_, _, hle, hc, _⟩ := longAt_facts hb (p - j) hl (by omega)
 have h1 := hle (by omega)
 have h2 := hc j j1 hlt
 rw [show p - j + j = p by omega] at h2
 rcases h with h | h
 ·omega
 ·have hlt2 : p < l.length := by omega
  rw [rd_at hb p hlt2] at h
  omega
/-- Index i of the steps stands at edge p. -/
def AtE (l : List Int) (p i : Nat) : Prop := p ≤ l.length ∧ i ≤ p ∧ ∃ pre, stepsL l = pre ++ stepsFrom (strOfNums l) p ∧ pre.length = i
theorem atE_zero (l : List Int) : AtE l 0 0 := ⟨Nat.zero_le _, Nat.le_refl _, [], rfl, rfl⟩
theorem atE_next {l : List Int} (hb : Bytes l) (hl : l.length ≤ 4398046511104) {p i : Nat} (h : AtE l p i) (hp : p < l.length) : AtE l (p + widL l p) (i + 1) := by
 obtain ⟨h1, h2, pre, h3, h4⟩ := h
 obtain ⟨w1, w4, wl⟩ := widL_pos hb p hl hp
 refine ⟨wl, by omega, pre ++ [((p : Int), ofL l p)], ?_, by simp [h4]⟩
 rw [h3, sf_cons hb hl p hp]
 simp
/-- The reference's places and kinds. -/
abbrev psL (l : List Int) : List Int := (stepsL l).map (·.1) ++ [(l.length : Int)]
abbrev ksL (l : List Int) : List Int := (stepsL l).map kOf
theorem atE_place {l : List Int} (hb : Bytes l) (hl : l.length ≤ 4398046511104) {p i : Nat} (h : AtE l p i) : rd (psL l) (i : Int) = (p : Int) := by
 obtain ⟨h1, h2, pre, h3, h4⟩ := h
 unfold psL
 rw [h3, ← h4]
 exact rd_places hb hl pre p h1
theorem atE_len {l : List Int} (hb : Bytes l) (hl : l.length ≤ 4398046511104) {p i : Nat} (h : AtE l p i) (hp : p < l.length) : (i : Int) < ((ksL l).length : Int) ∧ (i : Int) < ((psL l).length : Int) ∧ (i : Int) + 1 < ((psL l).length : Int) := by
 obtain ⟨h1, h2, pre, h3, h4⟩ := h
 have : (stepsL l).length = pre.length + 1 + (stepsFrom (strOfNums l) (p + widL l p)).length := by
  rw [h3, sf_cons hb hl p hp]
  simp
  omega
 simp only [List.length_map, List.length_append, List.length_singleton]
 omega
theorem atE_end {l : List Int} {i : Nat} (h : AtE l l.length i) : (ksL l).length = i := by
 obtain ⟨h1, h2, pre, h3, h4⟩ := h
 rw [sf_nil _ (Nat.le_refl _), List.append_nil] at h3
 simp [h3, h4]
theorem atE_kind {l : List Int} (hb : Bytes l) (hl : l.length ≤ 4398046511104) {p i : Nat} (h : AtE l p i) (hp : p < l.length) : rd (ksL l) (i : Int) = kindOf (ofL l p).1 (ofL l p).2.2 := by
 obtain ⟨h1, h2, pre, h3, h4⟩ := h
 unfold ksL
 rw [h3, ← h4, sf_cons hb hl p hp]
 exact rd_kinds_at pre ((p : Int), ofL l p) _
section
variable {l : List Int} (hb : Bytes l) (hl : l.length ≤ 4398046511103) (place w : Int)
include hb hl in
include hb hl in
include hb hl in
include hb hl in
include hl in
end

end Go.Proofs.YtijbkiajhicooaaDoor.PW

namespace Go.Proofs.YtijbkiajhicooaaDoor.PW
open Go.RowKit Go.Proofs.YtijbkiajhicooaaDoorW.PrintWords Go.Proofs.YtijbkiajhicooaaDoorW.PrintLast Go.Proofs.YtijbkiajhicooaaDoorW.PrintMore
attribute [local go_sem] max2_int min2_int max_two min_two max_three min_three max_four min_four   -- for this text's walks alone
set_option linter.unusedVariables false
set_option linter.unusedSimpArgs false

theorem strOfNums_whole (l : List Int) : (strOfNums l).extract 0 (strOfNums l).size = strOfNums l := by
 have := strOfNums_drop l 0
 rwa [List.drop_zero] at this
theorem step_at_ev {l : List Int} (hb : Bytes l) (hl : l.length ≤ 4398046511104) (q : Nat) (hq : q < l.length) : step_at.f l (q : Int) = some (ofL l q) := by
 obtain ⟨w1, w4, wl⟩ := widL_pos hb q hl hq
 obtain ⟨E, hE⟩ : ∃ E : Nat, E = min (q + 4) l.length := ⟨_, rfl⟩
 have hm : mn (wrap64 ((q : Int) + 4)) (l.length : Int) = (E : Int) := by
  rw [wrap64_small (by omega) (by omega)]
  unfold mn
  split <;> omega
 have hEl : E ≤ l.length := by omega
 have hqE : q < E := by omega
 have hwE : q + widL l q ≤ E := by omega
 have hs := (long_slice hb hl q E q (Nat.le_refl _) hqE hEl hwE).2
 rw [Nat.sub_self] at hs
 have hlen := piece_len l q E hEl
 have hf := (first_of (hb.piece q E) 0 (by omega) (by omega)).1
 rw [strOfNums_whole] at hf
 unfold step_at.f
 rw [hm, if_pos (by omega), if_pos (by omega), if_pos (by omega), Int.toNat_natCast, Int.toNat_natCast]
 unfold step_first.f
 rw [Option.bind_some]
 show some ((firstOf (strOfNums (piece l q E)))) = _
 rw [hf, hs]
/-- How far ahead of a place the step begins that goes over it. -/
def insideK (l : List Int) (p : Nat) : Nat :=
 if 1 ≤ p ∧ 1 < widL l (p - 1) then 1 else if 2 ≤ p ∧ 2 < widL l (p - 2) then 2 else if 3 ≤ p ∧ 3 < widL l (p - 3) then 3 else 0
def floorL (l : List Int) (p : Nat) : Nat := p - insideK l p
theorem inside_round {l : List Int} (hb : Bytes l) (hl : l.length ≤ 4398046511104) (p j : Nat) (hp : p ≤ l.length) (h1 : 1 ≤ j) (h3 : j ≤ 3) (k : Nat) :
  step_inside.l0 (k + 2) l (p : Int) (j : Int) = if j ≤ p then (if j < widL l (p - j) then some (j : Int) else step_inside.l0 k l (p : Int) ((j + 1 : Nat) : Int)) else some 0 := by
 rw [step_inside.l0, if_pos (by omega), step_inside.j1]
 by_cases h : j ≤ p
 ·have hw : wrap64 ((p : Int) - (j : Int)) = ((p - j : Nat) : Int) := by rw [wrap64_small (by omega) (by omega)]; omega
  have hw2 : wrap64 ((j : Int) + 1) = ((j + 1 : Nat) : Int) := by rw [wrap64_small (by omega) (by omega)]; omega
  have ho := ofL_wid hb hl (p - j) (by omega)
  have hg : ((ofL l (p - j)).2.1 > (j : Int)) ↔ j < widL l (p - j) := by rw [ho]; omega
  rw [if_pos (decide_eq_true (by omega)), if_pos h, hw, step_at_ev hb hl (p - j) (by omega), Option.bind_some, hw2]
  by_cases g : j < widL l (p - j)
  ·rw [if_pos g, if_pos (hg.2 g)]
  ·rw [if_neg g, if_neg (fun e => g (hg.1 e))]
 ·rw [if_neg (by rw [decide_eq_false (by omega)]; decide), if_neg h]
theorem inside_last (l : List Int) (p : Int) (k : Nat) : step_inside.l0 (k + 2) l p 4 = some 0 := by
 rw [step_inside.l0, if_neg (by decide), step_inside.j1, if_neg (by decide)]
theorem insideK_ev {l : List Int} (hb : Bytes l) (hl : l.length ≤ 4398046511104) (p : Nat) (hp : p ≤ l.length) (k : Nat) (hk : 8 ≤ k) : step_inside.f k l (p : Int) = some (insideK l p : Int) := by
 obtain ⟨m, rfl⟩ : ∃ m, k = m + 8 := ⟨k - 8, by omega⟩
 unfold step_inside.f insideK
 have r1 := inside_round hb hl p 1 hp (by omega) (by omega) (m + 6)
 have r2 := inside_round hb hl p 2 hp (by omega) (by omega) (m + 4)
 have r3 := inside_round hb hl p 3 hp (by omega) (by omega) (m + 2)
 have r4 := inside_last l (p : Int) m
 refine r1.trans ?_
 by_cases h1 : 1 ≤ p
 ·by_cases g1 : 1 < widL l (p - 1)
  ·rw [if_pos h1, if_pos g1, if_pos ⟨h1, g1⟩]
  ·rw [if_pos h1, if_neg g1, if_neg (fun e => g1 e.2)]
   refine r2.trans ?_
   by_cases h2 : 2 ≤ p
   ·by_cases g2 : 2 < widL l (p - 2)
    ·rw [if_pos h2, if_pos g2, if_pos ⟨h2, g2⟩]
    ·rw [if_pos h2, if_neg g2, if_neg (fun e => g2 e.2)]
     refine r3.trans ?_
     by_cases h3 : 3 ≤ p
     ·by_cases g3 : 3 < widL l (p - 3)
      ·rw [if_pos h3, if_pos g3, if_pos ⟨h3, g3⟩]
      ·rw [if_pos h3, if_neg g3, if_neg (fun e => g3 e.2)]
       exact r4
     ·rw [if_neg h3, if_neg (fun e => h3 e.1)]
      rfl
   ·rw [if_neg h2, if_neg (fun e => h2 e.1), if_neg (fun e => h2 (by omega))]
    rfl
 ·rw [if_neg h1, if_neg (fun e => h1 e.1), if_neg (fun e => h1 (by omega)), if_neg (fun e => h1 (by omega))]
  rfl
theorem insideK_le (l : List Int) (p : Nat) : insideK l p ≤ p := by
 unfold insideK
 split
 ·omega
 ·split
  ·omega
  ·split <;> omega
theorem floor_ev {l : List Int} (hb : Bytes l) (hl : l.length ≤ 4398046511104) (p : Nat) (hp : p ≤ l.length) (k : Nat) (hk : 8 ≤ k) : step_Floor.f k l (p : Int) = some ((floorL l p : Int), 0) := by
 have hle := insideK_le l p
 unfold step_Floor.f
 rw [if_neg (by omega), if_neg (by omega), insideK_ev hb hl p hp k hk, Option.bind_some, wrap64_small (by omega) (by omega)]
 unfold floorL
 rw [show ((p - insideK l p : Nat) : Int) = (p : Int) - (insideK l p : Int) by omega]
theorem long_le_wid (l : List Int) (q : Nat) : longAt l (q : Int) ≤ (widL l q : Int) := by
 unfold widL
 split
 ·omega
 ·omega
theorem long_of_wid {l : List Int} (q : Nat) (h : 1 < widL l q) : longAt l (q : Int) = (widL l q : Int) := by
 unfold widL at h ⊢
 by_cases g : longAt l (q : Int) = 0
 ·rw [if_pos g] at h; omega
 ·rw [if_neg g] at h ⊢; omega
theorem floor_facts {l : List Int} (hb : Bytes l) (hl : l.length ≤ 4398046511104) (p : Nat) (hp : p ≤ l.length) :
  Vis l (floorL l p) ∧ floorL l p ≤ p ∧ (floorL l p = p ∨ (floorL l p < p ∧ p < floorL l p + widL l (floorL l p))) := by
 have hv : ∀ k : Nat, 1 ≤ k → k ≤ p → k < widL l (p - k) → Vis l (p - k) := fun k h1 hk hw j j1 j3 jp => by
  refine Int.not_lt.1 fun hlt => ?_
  have hlong := long_of_wid (l := l) (p - k) (by omega)
  obtain ⟨_, _, _, hc, _⟩ := longAt_facts hb (p - k - j) hl (by omega)
  have := hc j j1 hlt
  rw [show p - k - j + j = p - k by omega] at this
  have hz := (longAt_facts hb (p - k) hl (by omega)).2.2.2.2 this
  omega
 unfold floorL insideK
 by_cases c1 : 1 ≤ p ∧ 1 < widL l (p - 1)
 ·rw [if_pos c1]
  exact ⟨hv 1 (by omega) c1.1 c1.2, by omega, .inr ⟨by omega, by omega⟩⟩
 rw [if_neg c1]
 by_cases c2 : 2 ≤ p ∧ 2 < widL l (p - 2)
 ·rw [if_pos c2]
  exact ⟨hv 2 (by omega) c2.1 c2.2, by omega, .inr ⟨by omega, by omega⟩⟩
 rw [if_neg c2]
 by_cases c3 : 3 ≤ p ∧ 3 < widL l (p - 3)
 ·rw [if_pos c3]
  exact ⟨hv 3 (by omega) c3.1 c3.2, by omega, .inr ⟨by omega, by omega⟩⟩
 rw [if_neg c3]
 refine ⟨fun j j1 j3 jp => ?_, by omega, .inl rfl⟩
 rw [Nat.sub_zero] at jp ⊢
 have := long_le_wid l (p - j)
 rcases (show j = 1 ∨ j = 2 ∨ j = 3 by omega) with rfl | rfl | rfl
 ·have : widL l (p - 1) ≤ 1 := Nat.le_of_not_lt fun h => c1 ⟨jp, h⟩
  omega
 ·have : widL l (p - 2) ≤ 2 := Nat.le_of_not_lt fun h => c2 ⟨jp, h⟩
  omega
 ·have : widL l (p - 3) ≤ 3 := Nat.le_of_not_lt fun h => c3 ⟨jp, h⟩
  omega
/-- The line of a list that holds a place. -/
def selLine (fp : Int) : List S127 → S127
 | [] => ⟨0, 0, 0, 0⟩
 | [r] => r
 | r :: q :: t => if q.f0 > fp then r else selLine fp (q :: t)
theorem rd_line (ls : List S127) (i : Nat) (h : i < ls.length) : rd_T127 ls (i : Int) = ls[i] := by
 unfold rd_T127
 rw [List.getD_eq_getElem?_getD, Int.toNat_natCast, List.getElem?_eq_getElem h]
 rfl
theorem holds_l0 (fp : Int) (ls : List S127) (hl : ls.length ≤ 4398046511104) : ∀ (t : List S127) (i : Nat) (r : S127) (k : Nat), ls.drop i = r :: t → ls.length + 1 ≤ i + k + 1 →
  ∃ j : Nat, lines_holds.l0 (k + 1) ls fp (i : Int) (ls.length : Int) ((i + 1 : Nat) : Int) = some (j : Int) ∧ j < ls.length ∧ rd_T127 ls (j : Int) = selLine fp (r :: t) := by
 intro t
 induction t with
 | nil =>
  intro i r k hd hk
  have hi : i < ls.length := by
   refine Nat.lt_of_not_le fun h => ?_
   rw [List.drop_of_length_le h] at hd
   cases hd
  have hlen : ls.length = i + 1 := by
   have := congrArg List.length hd
   simp at this
   omega
  refine ⟨i, ?_, hi, ?_⟩
  ·rw [lines_holds.l0, if_neg (by omega)]
  ·rw [rd_line ls i hi]
   rw [List.drop_eq_getElem_cons hi] at hd
   exact (List.cons.inj hd).1
 | cons q t ih =>
  intro i r k hd hk
  have hi : i < ls.length := by
   refine Nat.lt_of_not_le fun h => ?_
   rw [List.drop_of_length_le h] at hd
   cases hd
  have hlen := congrArg List.length hd
  simp at hlen
  have hi1 : i + 1 < ls.length := by omega
  rw [List.drop_eq_getElem_cons hi] at hd
  obtain ⟨hr, hd1⟩ := List.cons.inj hd
  have hd2 := hd1
  rw [List.drop_eq_getElem_cons hi1] at hd2
  have hq := (List.cons.inj hd2).1
  have hrd := rd_line ls (i + 1) hi1
  rw [hq] at hrd
  have hw : wrap64 (((i + 1 : Nat) : Int) + 1) = ((i + 1 + 1 : Nat) : Int) := by rw [wrap64_small (by omega) (by omega)]; omega
  have c1 : ((i + 1 : Nat) : Int) < (ls.length : Int) := by omega
  have c0 : 0 ≤ ((i + 1 : Nat) : Int) := by omega
  obtain ⟨m, rfl⟩ : ∃ m, k = m + 1 := ⟨k - 1, by omega⟩
  by_cases g : q.f0 > fp
  ·refine ⟨i, ?_, hi, ?_⟩
   ·rw [lines_holds.l0, if_pos c1, if_pos c0, if_pos c1, hrd, if_pos g]
   ·rw [rd_line ls i hi, hr]
    simp only [selLine]
    rw [if_pos g]
  ·obtain ⟨j, h1, h2, h3⟩ := ih (i + 1) q m hd1 (by omega)
   refine ⟨j, ?_, h2, ?_⟩
   ·rw [lines_holds.l0, if_pos c1, if_pos c0, if_pos c1, hrd, if_neg g, hw]
    exact h1
   ·rw [h3]
    simp only [selLine]
    rw [if_neg g]

end Go.Proofs.YtijbkiajhicooaaDoor.PW

namespace Go.Proofs.YtijbkiajhicooaaDoor.PW
open Go.RowKit Go.Proofs.YtijbkiajhicooaaDoorW.PrintWords Go.Proofs.YtijbkiajhicooaaDoorW.PrintLast Go.Proofs.YtijbkiajhicooaaDoorW.PrintMore
attribute [local go_sem] max2_int min2_int max_two min_two max_three min_three max_four min_four   -- for this text's walks alone
set_option linter.unusedVariables false
set_option linter.unusedSimpArgs false

/-- A line's content ends at C with a line end, and the next line begins at n. -/
def LEnd (l : List Int) (C n : Nat) : Prop :=
 C < l.length ∧ n ≤ l.length ∧ (rd l (C : Int) = 10 ∨ rd l (C : Int) = 13) ∧ startsB l n = true ∧ (n = C + 1 ∨ (n = C + 2 ∧ C + 1 < l.length ∧ rd l (C : Int) = 13 ∧ rd l ((C + 1 : Nat) : Int) = 10))
theorem lend_of {l : List Int} {r : S127} (h : EndsAt l r) (h0 : 0 ≤ r.f1) : ∃ n : Nat, r.f3 = (n : Int) ∧ LEnd l r.f1.toNat n := by
 obtain ⟨C, hC⟩ : ∃ C : Nat, r.f1 = (C : Int) := ⟨r.f1.toNat, by omega⟩
 unfold EndsAt at h
 rw [hC] at h ⊢
 rw [Int.toNat_natCast]
 rcases h with ⟨h1, h2, h3, h4⟩ | ⟨h1, h2, h3, h4, h5⟩ | ⟨h1, h2, h3, h4, h5⟩
 ·refine ⟨C + 1, by omega, by omega, by omega, .inl h2, ?_, .inl rfl⟩
  unfold startsB
  rw [if_neg (by omega), show ((C + 1 : Nat) : Int) - 1 = (C : Int) by omega, if_pos h2]
 ·refine ⟨C + 2, by omega, by omega, by omega, .inr h2, ?_, .inr ⟨rfl, by omega, h2, h3⟩⟩
  unfold startsB
  rw [if_neg (by omega), show ((C + 2 : Nat) : Int) - 1 = (C : Int) + 1 by omega, if_pos h3]
 ·refine ⟨C + 1, by omega, by omega, by omega, .inr h2, ?_, .inl rfl⟩
  unfold startsB
  rw [if_neg (by omega), show ((C + 1 : Nat) : Int) - 1 = (C : Int) by omega, if_neg (by rw [h2]; decide), if_pos h2]
  by_cases e : C + 1 = l.length
  ·rw [if_pos e]
  ·rw [if_neg e]
   have : rd l ((C + 1 : Nat) : Int) ≠ 10 := fun g => h3 ⟨by omega, g⟩
   simpa using this
theorem end_low {l : List Int} {C : Nat} (h : rd l (C : Int) = 10 ∨ rd l (C : Int) = 13) : rd l (C : Int) < 128 := by
 rcases h with h | h <;> rw [h] <;> decide
section
variable {l : List Int} (hb : Bytes l) (hl : l.length ≤ 4398046511103) (pl : Nat) (hpl : pl ≤ l.length) (w : Int) (hw0 : 1 ≤ w)
include hb hl hw0 in
include hb hl hw0 hpl in
/-- What the column is, by the line that begins at S and whose content ends at C. -/
def colIn (l : List Int) (w : Int) (fp S C : Nat) : Int := colOf w (piece l S (min fp C))
include hb hl hw0 hpl in
include hb hl hw0 hpl in
include hb hl hw0 hpl in
end

end Go.Proofs.YtijbkiajhicooaaDoor.PW

namespace Go.Proofs.YtijbkiajhicooaaDoor.PW
open Go.RowKit Go.Proofs.YtijbkiajhicooaaDoorW.PrintWords Go.Proofs.YtijbkiajhicooaaDoorW.PrintLast Go.Proofs.YtijbkiajhicooaaDoorW.PrintMore
attribute [local go_sem] max2_int min2_int max_two min_two max_three min_three max_four min_four   -- for this text's walks alone
set_option linter.unusedVariables false
set_option linter.unusedSimpArgs false

theorem sel_facts {l : List Int} (fp : Int) : ∀ (rs : List S127) (a : Int), LChain l a rs → 0 ≤ a → a ≤ fp → fp ≤ (l.length : Int) →
  0 ≤ (selLine fp rs).f0 ∧ (selLine fp rs).f0 ≤ fp ∧ (selLine fp rs).f0 ≤ (selLine fp rs).f1 ∧ (selLine fp rs).f1 ≤ (l.length : Int) := by
 intro rs
 induction rs with
 | nil => intro a h; exact absurd h (by simp [LChain])
 | cons r rs ih =>
  intro a h ha hf hl
  obtain ⟨h0, h1, h2, h3⟩ := h
  have hr : 0 ≤ r.f0 ∧ r.f0 ≤ fp ∧ r.f0 ≤ r.f1 ∧ r.f1 ≤ (l.length : Int) := by
   refine ⟨by omega, by omega, by omega, ?_⟩
   rcases h3 with ⟨_, h4, _⟩ | ⟨h4, _⟩
   ·omega
   ·rcases h4 with h | h | h <;> omega
  cases rs with
  | nil => exact hr
  | cons q t =>
   simp only [selLine]
   by_cases g : q.f0 > fp
   ·rw [if_pos g]; exact hr
   ·rw [if_neg g]
    rcases h3 with ⟨h4, _⟩ | ⟨h5, h4⟩
    ·cases h4
    ·have hq : q.f0 = r.f3 := h4.1
     have hr3 : 0 ≤ r.f3 := by
      rcases h5 with h | h | h <;> omega
     exact ih r.f3 h4 hr3 (by omega) hl
theorem size_some (l : List Int) (hl : l.length ≤ 4398046511104) (a : Int) (ha : a = 2 ∨ a = 3) : ∃ v, lines_size.f l a = some v := by
 have hr : rule_ruler.f a = some true := by rcases ha with rfl | rfl <;> rfl
 have hs : ∃ v, rule_size.f l a = some v := by
  unfold rule_size.f
  rw [if_pos hl]
  rcases ha with rfl | rfl
  ·exact ⟨_, rfl⟩
  ·exact ⟨_, rfl⟩
 obtain ⟨v, hv⟩ := hs
 refine ⟨v, ?_⟩
 unfold lines_size.f rule_Size.f
 rw [hr, Option.bind_some, if_pos rfl, hv]
 rfl
theorem lineAt_length (l : List Int) : ∀ (k : Nat) (s i : Int) (out : List S127), (lineAt l k s i out).length ≤ out.length + k := by
 intro k
 induction k with
 | zero => intro s i out; simp [lineAt]
 | succ k ih =>
  intro s i out
  simp only [lineAt]
  repeat' split
  ·refine Nat.le_trans (ih _ _ _) (by simp; omega)
  ·refine Nat.le_trans (ih _ _ _) (by simp; omega)
  ·refine Nat.le_trans (ih _ _ _) (by simp; omega)
  ·refine Nat.le_trans (ih _ _ _) (by omega)
  ·simp
theorem allLines_length (l : List Int) : (allLines l).length ≤ l.length + 1 := by
 have := lineAt_length l (l.length + 1) 0 0 []
 simpa [allLines] using this
theorem holds_all (l : List Int) (hl : l.length ≤ 4398046511103) (fp : Int) (h0 : 0 ≤ fp) (k : Nat) (hk : l.length + 3 ≤ k) :
  ∃ j : Nat, lines_holds.f k (allLines l) fp = some (j : Int) ∧ j < (allLines l).length ∧ rd_T127 (allLines l) (j : Int) = selLine fp (allLines l) := by
 have hlen := allLines_length l
 obtain ⟨m, rfl⟩ : ∃ m, k = m + 2 := ⟨k - 2, by omega⟩
 cases hA : allLines l with
 | nil => have := allLines_chain l; rw [hA] at this; exact absurd this (by simp [LChain])
 | cons r t =>
  have hch := allLines_chain l
  rw [hA] at hch hlen
  have hr0 : r.f0 = 0 := hch.1
  obtain ⟨j, h1, h2, h3⟩ := holds_l0 fp (r :: t) (by omega) t 0 r m rfl (by omega)
  refine ⟨j, ?_, h2, h3⟩
  have hrd : rd_T127 (r :: t) 0 = r := rfl
  have hl0 : (0 : Int) < ((r :: t).length : Int) := by simp only [List.length_cons]; omega
  have hng : ¬ r.f0 > fp := by omega
  have hw1 : wrap64 (0 + 1) = ((0 + 1 : Nat) : Int) := by unfold wrap64; omega
  unfold lines_holds.f
  rw [lines_holds.l0, if_pos hl0, if_pos (Int.le_refl _), if_pos hl0, hrd, if_neg hng, hw1]
  exact h1
theorem where_ev {l : List Int} (hb : Bytes l) (hl : l.length ≤ 4398046511103) (p : Nat) (hp : p ≤ l.length) (k : Nat) (hk : l.length + 10 ≤ k) :
  ∃ (j : Nat) (x1 x2 x4 x5 x6 : Int), lines_Where.f k l (p : Int) = some ((floorL l p : Int), x1, x2, (j : Int), x4, x5, x6, 0) ∧ j < (allLines l).length ∧ rd_T127 (allLines l) (j : Int) = selLine (floorL l p : Int) (allLines l) := by
 have hl4 : l.length ≤ 4398046511104 := by omega
 have hfl := (floor_facts hb hl4 p hp).2.1
 obtain ⟨j, h1, h2, h3⟩ := holds_all l hl (floorL l p : Int) (by omega) k (by omega)
 obtain ⟨s0, s1, s2, s3⟩ := sel_facts (l := l) (floorL l p : Int) (allLines l) 0 (allLines_chain l) (Int.le_refl _) (by omega) (by omega)
 have hall : lines_all.f l = some (allLines l) := by unfold lines_all.f; rw [if_pos hl]
 obtain ⟨v1, e1⟩ := size_some (l.take (floorL l p)) (by simp; omega) 2 (.inl rfl)
 obtain ⟨v2, e2⟩ := size_some (l.take (floorL l p)) (by simp; omega) 3 (.inr rfl)
 obtain ⟨v3, e3⟩ := size_some ((l.take (floorL l p)).drop (selLine (floorL l p : Int) (allLines l)).f0.toNat) (by simp; omega) 2 (.inl rfl)
 obtain ⟨v4, e4⟩ := size_some ((l.take (floorL l p)).drop (selLine (floorL l p : Int) (allLines l)).f0.toNat) (by simp; omega) 3 (.inr rfl)
 have c1 : (0 : Int) ≤ (floorL l p : Int) := by omega
 have c2 : (floorL l p : Int) ≤ (l.length : Int) := by omega
 have c3 : (0 : Int) ≤ (j : Int) := by omega
 have c4 : (j : Int) < ((allLines l).length : Int) := by omega
 refine ⟨j, v1, v2, (((l.take (floorL l p)).drop (selLine (floorL l p : Int) (allLines l)).f0.toNat).length : Int), v3, v4, ?_, h2, h3⟩
 unfold lines_Where.f
 rw [floor_ev hb hl4 p hp k (by omega), Option.bind_some]
 dsimp only
 rw [if_pos rfl, hall, Option.bind_some, h1, Option.bind_some, if_pos c1, if_pos c2, if_pos c3, if_pos c4, h3, if_pos s0, if_pos s1, Int.toNat_natCast, e1, Option.bind_some, e2, Option.bind_some, e3, Option.bind_some, e4, Option.bind_some]
theorem line_ev {l : List Int} (hl : l.length ≤ 4398046511103) (j : Nat) (hj : j < (allLines l).length) :
  lines_Line.f l (j : Int) = some ((rd_T127 (allLines l) (j : Int)).f0, (rd_T127 (allLines l) (j : Int)).f1, (rd_T127 (allLines l) (j : Int)).f3, 0) := by
 have hall : lines_all.f l = some (allLines l) := by unfold lines_all.f; rw [if_pos hl]
 unfold lines_Line.f
 rw [hall, Option.bind_some, if_neg (by omega), if_neg (by omega), if_pos (by omega), if_pos (by omega)]
/-- The answer of Column. -/
def columnAt (l : List Int) (a w : Int) : Int × Int :=
 if a < 0 ∨ a > (l.length : Int) ∨ w < 1 ∨ w > 65536 then (0, 2)
 else (colIn l w (floorL l a.toNat) (selLine (floorL l a.toNat : Int) (allLines l)).f0.toNat (selLine (floorL l a.toNat : Int) (allLines l)).f1.toNat, 0)
theorem words_column {l : List Int} (hb : Bytes l) (hl : l.length ≤ 4398046511103) (a w : Int) : words_Column.f l a w = some (columnAt l a w) := by
 unfold words_Column.f columnAt
 rw [outside_ev, Option.bind_some]
 by_cases h : a < 0 ∨ a > (l.length : Int)
 ·rw [if_pos (decide_eq_true h), if_pos (h.elim .inl fun e => .inr (.inl e))]
 rw [if_neg (by rw [decide_eq_false h]; decide)]
 by_cases h2 : w < 1
 ·rw [if_pos h2, if_pos (.inr (.inr (.inl h2)))]
 rw [if_neg h2]
 by_cases h3 : w > 65536
 ·rw [if_pos h3, if_pos (.inr (.inr (.inr h3)))]
 rw [if_neg h3, if_neg (by omega)]
 obtain ⟨p, rfl⟩ : ∃ p : Nat, a = (p : Int) := ⟨a.toNat, by omega⟩
 have hp : p ≤ l.length := by omega
 have hl4 : l.length ≤ 4398046511104 := by omega
 have hfl := (floor_facts hb hl4 p hp).2.1
 obtain ⟨j, x1, x2, x4, x5, x6, hW, hj, hrd⟩ := where_ev hb hl p hp (l.length + 10) (Nat.le_refl _)
 obtain ⟨s0, s1, s2, s3⟩ := sel_facts (l := l) (floorL l p : Int) (allLines l) 0 (allLines_chain l) (Int.le_refl _) (by omega) (by omega)
 rw [hW, Option.bind_some]
 dsimp only
 rw [if_pos rfl, line_ev hl j hj, Option.bind_some, hrd]
 dsimp only
 rw [Int.toNat_natCast]
 generalize selLine (floorL l p : Int) (allLines l) = r at s0 s1 s2 s3 ⊢
 obtain ⟨S, hS⟩ : ∃ S : Nat, r.f0 = (S : Int) := ⟨r.f0.toNat, by omega⟩
 obtain ⟨C, hC⟩ : ∃ C : Nat, r.f1 = (C : Int) := ⟨r.f1.toNat, by omega⟩
 rw [hS, hC] at s2 ⊢
 rw [hS] at s0 s1
 rw [hC] at s3
 have hm : mn (floorL l p : Int) (C : Int) = ((min (floorL l p) C : Nat) : Int) := by unfold mn; split <;> omega
 rw [hm, if_pos (by omega), if_pos (by omega), if_pos (by omega), if_pos hl4, Int.toNat_natCast, Int.toNat_natCast, Int.toNat_natCast]
 rfl
end Go.Proofs.YtijbkiajhicooaaDoor.PW
namespace Go.Proofs.YtijbkiajhicooaaDoor.Pure
open Go.Proofs.YtijbkiajhicooaaDoor.PW Go.RowKit
end Go.Proofs.YtijbkiajhicooaaDoor.Pure
namespace Go.Proofs.YtijbkiajhicooaaDoor.PW

end Go.Proofs.YtijbkiajhicooaaDoor.PW

namespace Go.Proofs.YtijbkiajhicooaaDoor.PW
open Go.RowKit Go.Proofs.YtijbkiajhicooaaDoorW.PrintWords Go.Proofs.YtijbkiajhicooaaDoorW.PrintLast Go.Proofs.YtijbkiajhicooaaDoorW.PrintMore
attribute [local go_sem] max2_int min2_int max_two min_two max_three min_three max_four min_four   -- for this text's walks alone
set_option linter.unusedVariables false
set_option linter.unusedSimpArgs false

/-- A line's own edges and blanks (es, bl) are those of the whole text (ps, ks) from index b on; the line begins at place S. -/
structure Corr (ps ks es : List Int) (bl : List Bool) (b m : Nat) (S : Int) : Prop where
 hm : es.length = m + 1
 hk : ∀ t : Int, 1 ≤ t → t ≤ (m : Int) → (rd ks ((b : Int) + t - 1) = 1 ↔ rdOf false bl t = true)
 hp : ∀ t : Int, 1 ≤ t → t ≤ (m : Int) → rd ps ((b : Int) + t) = wrap64 (S + rd es t)
 lp : b + m < ps.length
 lk : b + m ≤ ks.length
 sm : b + m ≤ 4398046511104
theorem wrap_l3 {ps ks es : List Int} {bl : List Bool} {b m : Nat} {S : Int} (H : Corr ps ks es bl b m S) (w n : Int) (hw1 : 1 ≤ w) (s : Nat) (hs : (s : Int) + w ≤ (m : Int)) (out : List Int) (ho : out.length < 17592186044416) {v : List Int × Int} :
  ∀ (j : Nat), (j : Int) ≤ w → (∀ c : Int, c = (if scanB bl (s : Int) j ((s : Int) + (j : Int)) = (s : Int) then (s : Int) + w else scanB bl (s : Int) j ((s : Int) + (j : Int))) →
   Ev (fun k => galleyref22_Wrap.l2 k w n (out ++ [wrap64 (S + rd es c)]) ((b : Int) + c) ((b : Int) + (m : Int)) ps ks) v) →
  Ev (fun k => galleyref22_Wrap.l3 k w n out ((b : Int) + (s : Int)) ((b : Int) + (m : Int)) ((b : Int) + (s : Int) + (j : Int)) ps ks) v := by
 have hsm := H.sm
 have hlp := H.lp
 have hlk := H.lk
 have c1 : 0 ≤ (b : Int) + (s : Int) + w := by omega
 have c2 : (b : Int) + (s : Int) + w < (ps.length : Int) := by omega
 have ew : wrap64 ((b : Int) + (s : Int) + w) = (b : Int) + (s : Int) + w := wrap64_small (by omega) (by omega)
 intro j
 induction j with
 | zero =>
  intro hj h
  have h := h ((s : Int) + w) (by
   rw [if_pos]
   show (s : Int) + ((0 : Nat) : Int) = (s : Int)
   omega)
  have a1 : ¬ (b : Int) + (s : Int) + ((0 : Nat) : Int) > (b : Int) + (s : Int) := by omega
  have a2 : (b : Int) + (s : Int) + ((0 : Nat) : Int) = (b : Int) + (s : Int) := by omega
  have a3 : (b : Int) + ((s : Int) + w) = (b : Int) + (s : Int) + w := by omega
  have hp := H.hp ((s : Int) + w) (by omega) hs
  rw [a3] at hp h
  refine Ev.succ h (fun k => ?_)
  rw [galleyref22_Wrap.l3, if_neg a1, if_pos a2, ew, if_pos c1, if_pos c2, if_pos ho, hp]
 | succ j ih =>
  intro hj h
  have a1 : (b : Int) + (s : Int) + ((j + 1 : Nat) : Int) > (b : Int) + (s : Int) := by omega
  have a2 : (b : Int) + (s : Int) + ((j + 1 : Nat) : Int) - 1 = (b : Int) + (s : Int) + (j : Int) := by omega
  have a3 : wrap64 ((b : Int) + (s : Int) + (j : Int)) = (b : Int) + (s : Int) + (j : Int) := wrap64_small (by omega) (by omega)
  have a4 : 0 ≤ (b : Int) + (s : Int) + (j : Int) := by omega
  have a5 : (b : Int) + (s : Int) + (j : Int) < (ks.length : Int) := by omega
  have a6 : ¬ (b : Int) + (s : Int) + ((j + 1 : Nat) : Int) = (b : Int) + (s : Int) := by omega
  have a7 : 0 ≤ (b : Int) + (s : Int) + ((j + 1 : Nat) : Int) := by omega
  have a8 : (b : Int) + (s : Int) + ((j + 1 : Nat) : Int) < (ps.length : Int) := by omega
  have a9 : (b : Int) + ((s : Int) + ((j + 1 : Nat) : Int)) - 1 = (b : Int) + (s : Int) + (j : Int) := by omega
  have b1 : (b : Int) + ((s : Int) + ((j + 1 : Nat) : Int)) = (b : Int) + (s : Int) + ((j + 1 : Nat) : Int) := by omega
  have b2 : ¬ (s : Int) + ((j + 1 : Nat) : Int) = (s : Int) := by omega
  have b3 : (s : Int) < (s : Int) + ((j + 1 : Nat) : Int) := by omega
  have b4 : (s : Int) + ((j + 1 : Nat) : Int) - 1 = (s : Int) + (j : Int) := by omega
  have hk := H.hk ((s : Int) + ((j + 1 : Nat) : Int)) (by omega) (by omega)
  have hp := H.hp ((s : Int) + ((j + 1 : Nat) : Int)) (by omega) (by omega)
  have hj' : (j : Int) ≤ w := by omega
  rw [a9] at hk
  rw [b1] at hp
  by_cases g : rdOf false bl ((s : Int) + ((j + 1 : Nat) : Int)) = true
  ·have hsc : scanB bl (s : Int) (j + 1) ((s : Int) + ((j + 1 : Nat) : Int)) = (s : Int) + ((j + 1 : Nat) : Int) := by
    rw [scanB, if_neg (fun e => by rw [g] at e; exact absurd e.2 (by decide))]
   have h := h ((s : Int) + ((j + 1 : Nat) : Int)) (by rw [hsc, if_neg b2])
   rw [b1] at h
   refine Ev.succ h (fun k => ?_)
   rw [galleyref22_Wrap.l3, if_pos a1, a2, a3, if_pos a4, if_pos a5, if_pos (hk.2 g), if_neg a6, if_pos a7, if_pos a8, if_pos ho, hp]
  ·have hsc : scanB bl (s : Int) (j + 1) ((s : Int) + ((j + 1 : Nat) : Int)) = scanB bl (s : Int) j ((s : Int) + (j : Int)) := by
    rw [scanB, if_pos ⟨b3, by simpa using g⟩, b4]
   rw [hsc] at h
   refine Ev.succ (ih hj' h) (fun k => ?_)
   rw [galleyref22_Wrap.l3, if_pos a1, a2, a3, if_pos a4, if_pos a5, if_neg (fun e => g (hk.1 e))]
theorem wrapGo_length (es : List Int) (bl : List Bool) (S w : Int) (hw1 : 1 ≤ w) : ∀ (k : Nat) (s : Int) (out : List Int), 0 ≤ s → s ≤ (es.length : Int) - 1 → ((wrapGo es bl S w k s out).length : Int) ≤ (out.length : Int) + ((es.length : Int) - 1 - s) := by
 intro k
 induction k with
 | zero => intro s out h0 h1; simp only [wrapGo]; omega
 | succ k ih =>
  intro s out h0 h1
  simp only [wrapGo]
  by_cases h : w < (es.length : Int) - 1 - s
  ·rw [if_pos h]
   have hc := cutOf_le bl w s hw1
   have := ih (cutOf bl w s) (out ++ [wrap64 (S + rd es (cutOf bl w s))]) (by omega) (by omega)
   rw [List.length_append, List.length_singleton] at this
   omega
  ·rw [if_neg h]; omega
theorem wrap_l2 {ps ks es : List Int} {bl : List Bool} {b m : Nat} {S : Int} (H : Corr ps ks es bl b m S) (w n : Int) (hw1 : 1 ≤ w) (hw2 : w ≤ 65536) {v : List Int × Int} :
  ∀ (fuel s : Nat) (out : List Int), s ≤ m → m - s < fuel → out.length ≤ b + s →
  Ev (fun k => galleyref22_Wrap.l0 k w n (wrapGo es bl S w fuel (s : Int) out) ((b : Int) + (m : Int) + 1) ps ks) v →
  Ev (fun k => galleyref22_Wrap.l2 k w n out ((b : Int) + (s : Int)) ((b : Int) + (m : Int)) ps ks) v := by
 have hsm := H.sm
 have hm := H.hm
 intro fuel
 induction fuel with
 | zero => intro s out h1 h2; omega
 | succ fuel ih =>
  intro s out h1 h2 h3 h
  have e1 : wrap64 ((b : Int) + (m : Int) - ((b : Int) + (s : Int))) = (m : Int) - (s : Int) := by rw [wrap64_small (by omega) (by omega)]; omega
  have e2 : wrap64 ((b : Int) + (m : Int) + 1) = (b : Int) + (m : Int) + 1 := wrap64_small (by omega) (by omega)
  have e3 : wrap64 ((b : Int) + (s : Int) + w) = (b : Int) + (s : Int) + (w.toNat : Int) := by rw [wrap64_small (by omega) (by omega)]; omega
  have e4 : (es.length : Int) - 1 - (s : Int) = (m : Int) - (s : Int) := by omega
  simp only [wrapGo] at h
  rw [e4] at h
  by_cases g : w < (m : Int) - (s : Int)
  ·rw [if_pos g] at h
   have hc := cutOf_le bl w (s : Int) hw1
   obtain ⟨c, hcn⟩ : ∃ c : Nat, cutOf bl w (s : Int) = (c : Int) := ⟨(cutOf bl w (s : Int)).toNat, by omega⟩
   have i1 : c ≤ m := by omega
   have i2 : m - c < fuel := by omega
   have i3 : (out ++ [wrap64 (S + rd es (cutOf bl w (s : Int)))]).length ≤ b + c := by simp; omega
   have i4 : out.length < 17592186044416 := by omega
   have i5 : (s : Int) + w ≤ (m : Int) := by omega
   have i6 : (w.toNat : Int) ≤ w := by omega
   have i7 : (s : Int) + (w.toNat : Int) = (s : Int) + w := by omega
   have i8 : (m : Int) - (s : Int) > w := g
   rw [hcn] at i3 h
   have hn := ih c _ i1 i2 i3 h
   refine Ev.succ (wrap_l3 H w n hw1 s i5 out i4 w.toNat i6 (fun c' hc' => ?_)) (fun k => ?_)
   ·rw [i7] at hc'
    have : c' = (c : Int) := by rw [hc', ← hcn]; rfl
    rw [this]
    exact hn
   ·rw [galleyref22_Wrap.l2, e1, if_pos i8, e3]
  ·rw [if_neg g] at h
   refine Ev.succ h (fun k => ?_)
   rw [galleyref22_Wrap.l2, e1, if_neg g, e2]

end Go.Proofs.YtijbkiajhicooaaDoor.PW

namespace Go.Proofs.YtijbkiajhicooaaDoor.PW
open Go.RowKit Go.Proofs.YtijbkiajhicooaaDoorW.PrintWords Go.Proofs.YtijbkiajhicooaaDoorW.PrintLast Go.Proofs.YtijbkiajhicooaaDoorW.PrintMore
attribute [local go_sem] max2_int min2_int max_two min_two max_three min_three max_four min_four   -- for this text's walks alone
set_option linter.unusedVariables false
set_option linter.unusedSimpArgs false

theorem rd_cons_map (g : PStep → Int) (pre : List PStep) (x : PStep) (rest : List PStep) : rd (0 :: (pre ++ x :: rest).map g) ((pre.length + 1 : Nat) : Int) = g x := by
 unfold rd
 rw [List.getD_eq_getElem?_getD, Int.toNat_natCast]
 simp
theorem rdOf_cons_map (g : PStep → Bool) (pre : List PStep) (x : PStep) (rest : List PStep) : rdOf false (false :: (pre ++ x :: rest).map g) ((pre.length + 1 : Nat) : Int) = g x := by
 unfold rdOf
 rw [List.getD_eq_getElem?_getD, Int.toNat_natCast]
 simp
theorem atE_le {l : List Int} {p i : Nat} (h : AtE l p i) : i ≤ (stepsL l).length := by
 obtain ⟨h1, h2, pre, h3, h4⟩ := h
 rw [h3, List.length_append]
 omega
theorem atE_last {l : List Int} (hb : Bytes l) (hl : l.length ≤ 4398046511104) {p : Nat} (h : AtE l p (stepsL l).length) : p = l.length := by
 obtain ⟨h1, h2, pre, h3, h4⟩ := h
 by_cases g : p < l.length
 ·have := congrArg List.length h3
  rw [sf_cons hb hl p g, List.length_append, List.length_cons] at this
  omega
 ·omega
theorem atE_lt {l : List Int} {p i : Nat} (h : AtE l p i) (hi : i < (stepsL l).length) : p < l.length := by
 refine Nat.lt_of_not_le fun hge => ?_
 obtain rfl : p = l.length := by have := h.1; omega
 have := atE_end h
 rw [List.length_map] at this
 omega
theorem atE_get {l : List Int} (hb : Bytes l) (hl : l.length ≤ 4398046511104) {p i : Nat} (h : AtE l p i) (hp : p < l.length) : ∃ pre rest, stepsL l = pre ++ ((p : Int), ofL l p) :: rest ∧ pre.length = i := by
 obtain ⟨h1, h2, pre, h3, h4⟩ := h
 exact ⟨pre, _, by rw [h3, sf_cons hb hl p hp], h4⟩
section
variable {l : List Int} (hb : Bytes l) (hl : l.length ≤ 4398046511103) {S C b : Nat} (hSC : S ≤ C) (hC : C ≤ l.length) (hv : Vis l C) (hplain : PlainTo l (S : Int) (C : Int)) (hA : AtE l S b)
include hb hl hSC hC hv hplain hA in
theorem corr_at : ∀ (t : Nat), t ≤ (stepsL (piece l S C)).length → ∃ q : Nat, AtE (piece l S C) q t ∧ AtE l (S + q) (b + t) ∧ (t < (stepsL (piece l S C)).length → ¬ rd (ksL l) ((b + t : Nat) : Int) = 2) ∧
  (1 ≤ t → rd (edgesOf (stepsL (piece l S C))) (t : Int) = (q : Int) ∧ (rd (ksL l) ((b + t : Nat) - 1 : Int) = 1 ↔ rdOf false (blanksOf (stepsL (piece l S C))) (t : Int) = true)) := by
 have hl4 : l.length ≤ 4398046511104 := by omega
 have hlen := piece_len l S C hC
 have hbY := hb.piece S C
 have hlY : (piece l S C).length ≤ 4398046511104 := by omega
 have hne2 : ∀ (q t : Nat), AtE (piece l S C) q t → AtE l (S + q) (b + t) → t < (stepsL (piece l S C)).length → ¬ rd (ksL l) ((b + t : Nat) : Int) = 2 := by
  intro q t h1 h2 h3
  have hq := atE_lt h1 h3
  have hlt : S + q < l.length := by omega
  rw [atE_kind hb hl4 h2 hlt, kind_end hb hl4 (S + q) hlt]
  have := hplain ((S + q : Nat) : Int) (by omega) (by omega)
  exact fun e => e.elim this.1 this.2
 intro t
 induction t with
 | zero => intro _; exact ⟨0, atE_zero _, hA, hne2 0 0 (atE_zero _) hA, fun h => absurd h (by decide)⟩
 | succ t ih =>
  intro ht
  obtain ⟨q, h1, h2, h3, h4⟩ := ih (by omega)
  clear h3 h4 ih
  have hq := atE_lt h1 (by omega)
  have hlt : S + q < C := by omega
  have hltl : S + q < l.length := by omega
  have hr : S + q + widL l (S + q) ≤ C := by
   have := reach_vis hb hl4 C hC hv _ (S + q) rfl (by omega)
   cases this with
   | here => omega
   | step _ _ h => exact h.le
  have hws := wid_slice hb hl4 S C (S + q) (by omega) hlt hC hr
  have hos := (long_slice hb hl4 S C (S + q) (by omega) hlt hC hr).2
  have hsub : S + q - S = q := by omega
  rw [hsub] at hws hos
  have g1 := atE_next hbY hlY h1 hq
  have g2 := atE_next hb hl4 h2 hltl
  rw [hws] at g1
  have g2' : AtE l (S + (q + widL l (S + q))) (b + (t + 1)) := by
   rw [← Nat.add_assoc, ← Nat.add_assoc]; exact g2
  refine ⟨q + widL l (S + q), g1, g2', hne2 _ _ g1 g2', fun _ => ?_⟩
  obtain ⟨pre, rest, hst, hpre⟩ := atE_get hbY hlY h1 hq
  have hw := ofL_wid hbY hlY q hq
  have hwr : wrap64 ((q : Int) + (widL l (S + q) : Int)) = ((q + widL l (S + q) : Nat) : Int) := by rw [wrap64_small (by omega) (by omega)]; omega
  have hcast : ((b + (t + 1) : Nat) : Int) - 1 = ((b + t : Nat) : Int) := by omega
  rw [hws] at hw
  have hkd := atE_kind hb hl4 h2 hltl
  have e1 : rd (edgesOf (stepsL (piece l S C))) ((t + 1 : Nat) : Int) = ((q + widL l (S + q) : Nat) : Int) := by
   unfold edgesOf
   rw [hst, ← hpre, rd_cons_map (fun x => wrap64 (x.1 + x.2.2.1)) pre _ rest]
   show wrap64 ((q : Int) + (ofL (piece l S C) q).2.1) = _
   rw [hw]
   exact hwr
  have e2 : rdOf false (blanksOf (stepsL (piece l S C))) ((t + 1 : Nat) : Int) = (kindOf (ofL l (S + q)).1 (ofL l (S + q)).2.2 == 1) := by
   unfold blanksOf
   rw [hst, ← hpre, rdOf_cons_map (fun x => kindOf x.2.1 x.2.2.2 == 1) pre _ rest]
   show (kindOf (ofL (piece l S C) q).1 (ofL (piece l S C) q).2.2 == 1) = _
   rw [hos]
  refine ⟨e1, ?_⟩
  rw [hcast, hkd, e2]
  simp
include hb hl hSC hC hv hplain hA in
theorem corr_end : AtE l C (b + (stepsL (piece l S C)).length) := by
 obtain ⟨q, h1, h2, h3, h4⟩ := corr_at hb hl hSC hC hv hplain hA _ (Nat.le_refl _)
 clear h3 h4
 have hlen := piece_len l S C hC
 have := atE_last (hb.piece S C) (by omega) h1
 rw [show S + q = C by omega] at h2
 exact h2
include hb hl hSC hC hv hplain hA in
theorem corr_line : Corr (psL l) (ksL l) (edgesOf (stepsL (piece l S C))) (blanksOf (stepsL (piece l S C))) b (stepsL (piece l S C)).length (S : Int) := by
 have hl4 : l.length ≤ 4398046511104 := by omega
 have hE := corr_end hb hl hSC hC hv hplain hA
 have hle := atE_le hE
 have hsl := stepsFrom_length (strOfNums l) 0
 rw [strOfNums_size] at hsl
 have hsl2 : (stepsL l).length ≤ l.length := by unfold stepsL allSteps; omega
 refine ⟨by simp [edgesOf], fun t h1 h2 => ?_, fun t h1 h2 => ?_, by simp; omega, by simp; omega, by omega⟩
 ·obtain ⟨u, rfl⟩ : ∃ u : Nat, t = (u : Int) := ⟨t.toNat, by omega⟩
  have hu1 : 1 ≤ u := by omega
  obtain ⟨q, _, _, _, h⟩ := corr_at hb hl hSC hC hv hplain hA u (by omega)
  have h := (h hu1).2
  rw [show ((b + u : Nat) : Int) = (b : Int) + (u : Int) from Int.natCast_add b u] at h
  exact h
 ·obtain ⟨u, rfl⟩ : ∃ u : Nat, t = (u : Int) := ⟨t.toNat, by omega⟩
  have hu1 : 1 ≤ u := by omega
  obtain ⟨q, hq, hq2, h3, h⟩ := corr_at hb hl hSC hC hv hplain hA u (by omega)
  have h := (h hu1).1
  clear h3
  have hwr : wrap64 ((S : Int) + (q : Int)) = ((S + q : Nat) : Int) := by rw [wrap64_small (by have := hq2.1; omega) (by have := hq2.1; omega)]; omega
  have hp := atE_place hb hl4 hq2
  rw [show ((b + u : Nat) : Int) = (b : Int) + (u : Int) from Int.natCast_add b u] at hp
  rw [hp, h, hwr]
include hb hl hSC hC hv hplain hA in
theorem wrap_l1 (hend : C = l.length ∨ (C < l.length ∧ (rd l (C : Int) = 10 ∨ rd l (C : Int) = 13))) (w : Int) (out : List Int) {v : List Int × Int}
  (h : Ev (fun k => galleyref22_Wrap.l2 k w ((ksL l).length : Int) out (b : Int) ((b : Int) + ((stepsL (piece l S C)).length : Int)) (psL l) (ksL l)) v) :
  ∀ (j t : Nat), t + j = (stepsL (piece l S C)).length → Ev (fun k => galleyref22_Wrap.l1 k w ((ksL l).length : Int) out (b : Int) ((b : Int) + (t : Int)) (psL l) (ksL l)) v := by
 have hl4 : l.length ≤ 4398046511104 := by omega
 have hE := corr_end hb hl hSC hC hv hplain hA
 have H := corr_line hb hl hSC hC hv hplain hA
 have hsm := H.sm
 have hlk := H.lk
 clear H
 intro j
 induction j with
 | zero =>
  intro t ht
  obtain rfl : t = (stepsL (piece l S C)).length := by omega
  refine Ev.succ (h := fun k => galleyref22_Wrap.j3 k w ((ksL l).length : Int) out (b : Int) ((b : Int) + ((stepsL (piece l S C)).length : Int)) (psL l) (ksL l)) (Ev.succ h (fun k => by rw [galleyref22_Wrap.j3])) (fun k => ?_)
  rcases hend with hend | ⟨hlt, hb2⟩
  ·subst hend
   have := atE_end hE
   rw [galleyref22_Wrap.l1, if_neg (by omega)]
  ·obtain ⟨c1, c2, c3⟩ := atE_len hb hl4 hE hlt
   have hk := (kind_end hb hl4 C hlt).2 hb2
   rw [← atE_kind hb hl4 hE hlt] at hk
   have c0 : 0 ≤ (b : Int) + ((stepsL (piece l S C)).length : Int) := by clear hk; omega
   rw [show ((b + (stepsL (piece l S C)).length : Nat) : Int) = (b : Int) + ((stepsL (piece l S C)).length : Int) from Int.natCast_add _ _] at c1 hk
   rw [galleyref22_Wrap.l1, if_pos c1, if_pos c0, if_pos c1, if_pos hk]
 | succ j ih =>
  intro t ht
  have c1 : (b : Int) + (t : Int) < ((ksL l).length : Int) := by omega
  have c0 : 0 ≤ (b : Int) + (t : Int) := by omega
  have e1 : wrap64 ((b : Int) + (t : Int) + 1) = (b : Int) + ((t + 1 : Nat) : Int) := by rw [wrap64_small (by omega) (by omega)]; omega
  have ih1 := ih (t + 1) (by omega)
  have htl : t < (stepsL (piece l S C)).length := by omega
  obtain ⟨q, _, _, h3, _⟩ := corr_at hb hl hSC hC hv hplain hA t (Nat.le_of_lt htl)
  have h3 := h3 htl
  rw [show ((b + t : Nat) : Int) = (b : Int) + (t : Int) from Int.natCast_add b t] at h3
  refine Ev.succ ih1 (fun k => ?_)
  rw [galleyref22_Wrap.l1, if_pos c1, if_pos c0, if_pos c1, if_neg h3, e1]
theorem wrapGo_out (es : List Int) (bl : List Bool) (S w : Int) : ∀ (k : Nat) (s : Int) (out : List Int), wrapGo es bl S w k s out = out ++ wrapGo es bl S w k s [] := by
 intro k
 induction k with
 | zero => intro s out; simp [wrapGo]
 | succ k ih =>
  intro s out
  simp only [wrapGo]
  by_cases h : w < (es.length : Int) - 1 - s
  ·rw [if_pos h, if_pos h, ih _ (out ++ _), ih _ ([] ++ _)]
   simp
  ·rw [if_neg h, if_neg h]
   simp
include hb hl hSC hC hv hplain hA in
theorem wrap_line (hend : C = l.length ∨ (C < l.length ∧ (rd l (C : Int) = 10 ∨ rd l (C : Int) = 13))) (hS : S < l.length) (w : Int) (hw1 : 1 ≤ w) (hw2 : w ≤ 65536) (out : List Int) (ho : out.length ≤ b) {v : List Int × Int}
  (h : Ev (fun k => galleyref22_Wrap.l0 k w ((ksL l).length : Int) (out ++ wrapsOf (piece l S C) (S : Int) w) ((b : Int) + ((stepsL (piece l S C)).length : Int) + 1) (psL l) (ksL l)) v) :
  Ev (fun k => galleyref22_Wrap.l0 k w ((ksL l).length : Int) out (b : Int) (psL l) (ksL l)) v := by
 have hl4 : l.length ≤ 4398046511104 := by omega
 have H := corr_line hb hl hSC hC hv hplain hA
 obtain ⟨c1, c2, c3⟩ := atE_len hb hl4 hA hS
 have hm := H.hm
 unfold wrapsOf at h
 rw [← wrapGo_out] at h
 have h2 := wrap_l2 H w ((ksL l).length : Int) hw1 hw2 (edgesOf (stepsL (piece l S C))).length 0 out (Nat.zero_le _) (by omega) (by omega) h
 rw [show (b : Int) + ((0 : Nat) : Int) = (b : Int) by omega] at h2
 have h1 := wrap_l1 hb hl hSC hC hv hplain hA hend w out h2 (stepsL (piece l S C)).length 0 (by omega)
 rw [show (b : Int) + ((0 : Nat) : Int) = (b : Int) by omega] at h1
 refine Ev.succ h1 (fun k => ?_)
 rw [galleyref22_Wrap.l0, if_pos c1]
end
theorem wrapsOf_length {l : List Int} (S C : Nat) (hC : C ≤ l.length) (hSC : S ≤ C) (st w : Int) (hw1 : 1 ≤ w) : (wrapsOf (piece l S C) st w).length ≤ (stepsL (piece l S C)).length ∧ (stepsL (piece l S C)).length ≤ C - S := by
 have hsl := stepsFrom_length (strOfNums (piece l S C)) 0
 rw [strOfNums_size, piece_len l S C hC] at hsl
 have := wrapGo_length (edgesOf (stepsL (piece l S C))) (blanksOf (stepsL (piece l S C))) st w hw1 (edgesOf (stepsL (piece l S C))).length 0 [] (Int.le_refl _) (by simp [edgesOf])
 have he : (edgesOf (stepsL (piece l S C))).length = (stepsL (piece l S C)).length + 1 := by simp [edgesOf]
 have hx : (stepsL (piece l S C)).length = (stepsFrom (strOfNums (piece l S C)) 0).length := rfl
 unfold wrapsOf
 simp only [List.length_nil] at this
 refine ⟨?_, by omega⟩
 show (wrapGo (edgesOf (stepsL (piece l S C))) (blanksOf (stepsL (piece l S C))) st w (edgesOf (stepsL (piece l S C))).length 0 []).length ≤ _
 omega

end Go.Proofs.YtijbkiajhicooaaDoor.PW

