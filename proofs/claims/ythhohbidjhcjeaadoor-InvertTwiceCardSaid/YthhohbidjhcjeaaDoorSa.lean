/- Contracts of strings.IndexRune and ContainsRune on the letters of paths, at every rune, and of path.part's predicate. -/
import Derived.Test.YthhohbidjhcjeaaDoorShelf
import Derived.Laws.Runes
import Derived.Laws.RangeAny
import Derived.Shelf.Strings.FuncGrows
import Derived.Lib.OthersKept
import Derived.Deep.LoopGhost
import Derived.WalkKit
import Derived.WalkMore
import Derived.Tactics
import Derived.KernelRfl
namespace Go.Proofs.YthhohbidjhcjeaaDoor.H
open Go.RowKit Go.Lib Go.Shelf

/-- The letters that parts of paths are made of. -/
def letters : ByteArray := ⟨#[97, 98, 99, 100, 101, 102, 103, 104, 105, 106, 107, 108, 109, 110, 111, 112, 113, 114, 115, 116, 117, 118, 119, 120, 121, 122, 48, 49, 50, 51, 52, 53, 54, 55, 56, 57, 46, 95, 45]⟩
theorem letters_low : ∀ b ∈ letters.data.toList, b.toNat < 128 := by decide +kernel
theorem letters_size : letters.size = 39 := by decide +kernel
theorem letters_decode : ∀ p, p < 39 → (Utf8.decode letters p).1 < 128 ∧ (Utf8.decode letters p).2 = 1 := by decide +kernel
theorem indexByte_none (l : List UInt8) (c : UInt8) (h : ∀ b ∈ l, b.toNat < 128) (hc : 128 ≤ c.toNat) : Lib.indexByte l c = -1 := by
  induction l with
  | nil => rfl
  | cons b l ih =>
    have hb : (b == c) = false := by
      have h1 := h b (by simp)
      simp only [beq_eq_false_iff_ne, ne_eq]
      rintro rfl
      omega
    rw [Lib.indexByte, hb, ih (fun x hx => h x (by simp [hx]))]
    rfl

set_option maxHeartbeats 2000000 in
set_option maxRecDepth 1000000 in
theorem indexRune_bad (r : Int) (h1 : 128 ≤ r) (hb : Lib.validRune r = false) (w : World) :
    Calls Tryd.prog 120 #[.string letters, .int .i32 r] w fun e w' => e = .returned (.int .i64 (-1)) ∧ Below w.heap.size w w' := by
  have h2 : r ≠ 65533 := by rintro rfl; revert hb; decide
  go_enter Tryd.func120, Tryd.ntmps120
  go_wp2_with (go_at_call 129; refine (Tryd.utf8_ValidRune _ _).mono ?_; rintro e w' ⟨rfl, rfl⟩; rw [hb])
  go_ret
  exact ⟨rfl, Below.refl _ _⟩
set_option maxHeartbeats 2000000 in
set_option maxRecDepth 1000000 in
theorem indexRune_error (w : World) :
    Calls Tryd.prog 120 #[.string letters, .int .i32 65533] w fun e w' => e = .returned (.int .i64 (-1)) ∧ Below w.heap.size w w' := by
  obtain ⟨s, hs⟩ : ∃ s, letters = s := ⟨_, rfl⟩
  have hsz : s.size = 39 := by rw [← hs]; exact letters_size
  have hd := letters_decode
  rw [hs] at hd
  rw [hs]
  clear hs
  go_enter Tryd.func120, Tryd.ntmps120
  go_wp2
  go_loopg [] s.size (fun gf wx => ∃ pos : Nat, wx.heap[w.heap.size]? = some (.stringIter s pos) ∧ Below w.heap.size w wx ∧ s.size ≤ pos + gf)
  case atStart => exact ⟨0, World.iter_heap w s 0, (Below.refl _ w).alloc (Nat.le_refl _) _, by omega⟩
  case round =>
    obtain ⟨pos, hit, hbw, hfu⟩ := hrel
    by_cases hps : pos < s.size
    · obtain ⟨g', rfl⟩ : ∃ g', gk = g' + 1 := ⟨gk - 1, by omega⟩
      have hnx : ∀ ty, (Instr.next (.pointer (some ⟨w.heap.size, 0, none⟩)) true ty).run Tryd.prog wr = _ := fun ty => Lib.run_next_any_at wr w.heap.size s pos ty hit hps
      obtain ⟨hd1, hd2⟩ := hd pos (by omega)
      obtain ⟨R, hR⟩ : ∃ R, (Utf8.decode s pos).1 = R := ⟨_, rfl⟩
      rw [hR] at hnx hd1
      rw [hd2] at hnx
      have hit2 := Lib.iterAt_heap wr w.heap.size s pos (pos + 1) hit
      have hbw2 := Lib.below_iterAt hbw (k := w.heap.size) (Nat.le_refl _) s (pos + 1)
      obtain ⟨W, hWd⟩ : ∃ W, wr.iterAt w.heap.size s (pos + 1) = W := ⟨_, rfl⟩
      rw [hWd] at hnx hit2 hbw2
      have hne : ((R : Int) == 65533) = false := by simp; omega
      go_wp2
      go_roundg g'
      case measure => omega
      case rel => exact ⟨pos + 1, hit2, hbw2, by omega⟩
    · have hnx : ∀ ty, (Instr.next (.pointer (some ⟨w.heap.size, 0, none⟩)) true ty).run Tryd.prog wr = _ := fun ty => Lib.run_next_end_at wr w.heap.size s pos ty hit hps
      go_wp2
      go_ret
      exact ⟨rfl, hbw⟩

set_option maxHeartbeats 2000000 in
set_option maxRecDepth 1000000 in
theorem indexRune_valid (r : Int) (h1 : 128 ≤ r) (h2 : r ≠ 65533) (hv : Lib.validRune r = true) (w : World) :
    Calls Tryd.prog 120 #[.string letters, .int .i32 r] w fun e w' => e = .returned (.int .i64 (-1)) ∧ Below w.heap.size w w' := by
  obtain ⟨s, hs⟩ : ∃ s, letters = s := ⟨_, rfl⟩
  have hsz : s.size = 39 := by rw [← hs]; exact letters_size
  have hlow := letters_low
  rw [hs] at hlow
  rw [hs]
  clear hs
  obtain ⟨e2, e4, elast⟩ := encode_facts r (by rw [validRune_eq]; exact hv) h1
  obtain ⟨E, hE⟩ : ∃ E, Utf8.encode r = E := ⟨_, rfl⟩
  rw [hE] at e2 e4 elast
  obtain ⟨n, hn⟩ : ∃ n, E.size = n + 1 := ⟨E.size - 1, by omega⟩
  have hn1 : 1 ≤ n := by omega
  have hn3 : n ≤ 3 := by omega
  have hlt : n < E.size := by omega
  have hla : 128 ≤ (E[n]'hlt).toNat := by
    have h := elast (by omega)
    have e : E.size - 1 = n := by omega
    simpa only [e] using h
  clear elast e2 e4
  obtain ⟨c, hc⟩ : ∃ c, E[n]'hlt = c := ⟨_, rfl⟩
  rw [hc] at hla
  have hsn : n < s.size := by omega
  obtain ⟨b, hb⟩ : ∃ b, s[n]'hsn = b := ⟨_, rfl⟩
  have hbl : b.toNat < 128 := by
    rw [← hb]
    exact hlow _ (Array.getElem_mem_toList (xs := s.data) hsn)
  have ix1 : ∀ W, (Instr.index 9 (.string s) (.int .i64 (n : Int))).run Tryd.prog W = .ok (.int .u8 b.toNat) W := fun W => by
    rw [run_index_string W 9 s .i64 _ Tryd.underlying9, dif_pos ⟨by omega, by omega⟩]
    simp only [Int.toNat_natCast, hb]
  have ix2 : ∀ W, (Instr.index 9 (.string E) (.int .i64 (n : Int))).run Tryd.prog W = .ok (.int .u8 c.toNat) W := fun W => by
    rw [run_index_string W 9 E .i64 _ Tryd.underlying9, dif_pos ⟨by omega, by omega⟩]
    simp only [Int.toNat_natCast, hc]
  have cIB : ∀ (a e : Nat) (W : World), Calls Tryd.prog 128 #[.string (s.extract a e), .int .u8 (c.toNat : Int)] W fun e w' => e = .returned (.int .i64 (-1)) ∧ w' = W := fun a e W => by
    have h := Tryd.strings_IndexByte (s.extract a e) (c.toNat : Int) W
    rw [indexByte_none _ _ (fun x hx => hlow x (mem_extract hx)) (by simpa using hla)] at h
    exact h
  have hbc : (((b.toNat : Int)) == (c.toNat : Int)) = false := by simp only [beq_eq_false_iff_ne, ne_eq]; omega
  have hbc' : (((b.toNat : Int)) != (c.toNat : Int)) = true := by simp only [bne_iff_ne, ne_eq]; omega
  have hwr : IntKind.i64.wrap ((n : Int) + 1) = (n : Int) + 1 := wrap_small _ (by omega) (by omega)
  have hsl : ∀ W, (Instr.slice 9 (.string s) (some (.int .i64 (IntKind.i64.wrap ((n : Int) + 1)))) none none).run Tryd.prog W = .ok (.string (s.extract (n + 1) s.size)) W := fun W => by
    rw [hwr, run_slice_string_from_if W 9 s .i64 _ Tryd.underlying9, if_pos ⟨by omega, by omega⟩]
    rfl
  clear hwr
  have hlen : (n : Int) < 39 := by omega
  have hs21 : (Tryd.prog.underlying 21).isSome = true := by rw [Tryd.underlying21]; rfl
  have hcv : ∀ W, (convert 21 9 (.int .i32 r)).run Tryd.prog W = .ok (.string E) W := fun W => by rw [run_convert_int_string W 21 9 .i32 r hs21 Tryd.underlying9, hE]
  go_enter Tryd.func120, Tryd.ntmps120
  go_wp2_with (go_at_call 129; refine (Tryd.utf8_ValidRune _ _).mono ?_; rintro e w1 ⟨rfl, hw1⟩; rw [hv, hw1])
  go_step3
  go_wp2
  go_loopg [9] 1 (fun gf v9 wx => v9 = .int .i64 (n : Int) ∧ wx = w)
  case atStart => exact ⟨rfl, rfl⟩
  case round =>
    obtain ⟨rfl, rfl⟩ := hrel
    go_wp2
    go_step3
    go_wp2
    go_region
    all_goals go_wp2
    all_goals go_region_with (go_at_call 128; refine (cIB _ _ _).mono ?_; rintro e w2 ⟨rfl, hw2⟩; rw [hw2])
    all_goals go_wp2
    all_goals simp only [Exit.noGoto_ret, Exit.inBlock, Exit.then]
    all_goals go_ret
    all_goals exact ⟨rfl, by repeat (first | exact Below.refl _ _ | refine Below.drew ?_)⟩

/-- Is a rune one of the letters? -/
def isLetter (r : Nat) : Bool := decide (r < 128) && decide (0 ≤ Lib.indexByte letters.data.toList r.toUInt8)
theorem containsRune (r : Nat) (hr : r ≤ 1114111) (w : World) :
    Calls Tryd.prog 102 #[.string letters, .int .i32 (r : Int)] w fun e w' => e = .returned (.bool (isLetter r)) ∧ Below w.heap.size w w' := by
  by_cases h : r < 128
  · refine (Tryd.strings_ContainsRune_ascii letters (r : Int) w (by omega) (by omega)).mono ?_
    rintro e w' ⟨rfl, rfl⟩
    refine ⟨?_, Below.refl _ _⟩
    simp [isLetter, h]
  · have hI : Calls Tryd.prog 120 #[.string letters, .int .i32 (r : Int)] w fun e w' => e = .returned (.int .i64 (-1)) ∧ Below w.heap.size w w' := by
      by_cases h2 : (r : Int) = 65533
      · rw [h2]; exact indexRune_error w
      · cases hv : Lib.validRune (r : Int) with
        | true => exact indexRune_valid _ (by omega) h2 hv w
        | false => exact indexRune_bad _ (by omega) hv w
    have e0 : isLetter r = false := by simp [isLetter, h]
    rw [e0]
    go_enter Tryd.func102, Tryd.ntmps102
    go_wp2_with (go_at_call 120; refine hI.mono ?_; rintro e w' ⟨rfl, hb⟩)
    go_ret
    exact ⟨rfl, hb⟩
/-- The predicate of path.part: is a rune strange? -/
theorem strange_grows (w : World) : PredGrows Tryd.prog 101 #[] (fun r => !isLetter r) w := by
  intro W x hx hb
  show Calls Tryd.prog 101 #[.int .i32 (x : Int)] W _
  have hC := containsRune x hx W
  obtain ⟨s, hs⟩ : ∃ s, letters = s := ⟨_, rfl⟩
  rw [hs] at hC
  unfold letters at hs
  go_enter Tryd.func101, Tryd.ntmps101
  rw [hs]
  go_wp2_with (go_at_call 102; refine hC.mono ?_; rintro e w' ⟨rfl, hb⟩)
  go_ret
  exact ⟨rfl, hb⟩
end Go.Proofs.YthhohbidjhcjeaaDoor.H
