/- The contract of the iterator of strings.SplitSeq over a sign: it hands the pieces between the signs, one behind the other. -/
import Derived.Test.YthhohbidjhcjeaaDoorRB
import Derived.Test.YthhohbidjhcjeaaDoorShelf
import Derived.Lib.IndexLaws
import Derived.Shelf.Abstract
import Derived.Shelf.RegionOpen
import Derived.WalkKit
import Derived.OwnWalkIn
import Derived.TacticsInMore
import Derived.LoopNIn
import Derived.LoopIn
import Derived.Outline
import Derived.Lib.Hide
namespace Go.Proofs.YthhohbidjhcjeaaDoor.H
open Go.RowKit Go.Shelf Go.Proofs.YthhohbidjhcjeaaDoor.RB
attribute [local go_sem] Oper.semAt_some

/-- The pieces of a text between a sign. -/
def pieces (c : UInt8) : List UInt8 → List (List UInt8)
  | [] => [[]]
  | b :: l => if b = c then [] :: pieces c l else match pieces c l with
    | [] => [[b]]
    | p :: r => (b :: p) :: r
theorem pieces_ne (c : UInt8) : ∀ l, pieces c l ≠ []
  | [] => by simp [pieces]
  | b :: l => by
    unfold pieces
    split
    · simp
    · split <;> simp
theorem pieces_pos (c : UInt8) (l : List UInt8) : 1 ≤ (pieces c l).length := by
  have := pieces_ne c l
  cases h : pieces c l with
  | nil => exact absurd h this
  | cons p r => simp
theorem pieces_none (c : UInt8) : ∀ (l : List UInt8), Lib.indexByte l c = -1 → pieces c l = [l]
  | [], _ => rfl
  | b :: l, h => by
    have hb : ¬ b = c := fun e => by
      subst e
      simp [Lib.indexByte] at h
    have hl : Lib.indexByte l c = -1 := by
      have hb' : (b == c) = false := by simpa using hb
      have hg := Lib.indexByte_ge l c
      rw [Lib.indexByte, hb'] at h
      by_cases e : Lib.indexByte l c = -1
      · exact e
      · have e' : (Lib.indexByte l c == -1) = false := by simpa using e
        simp only [Bool.false_eq_true, if_false, e'] at h
        omega
    rw [pieces, if_neg hb, pieces_none c l hl]
theorem pieces_some (c : UInt8) : ∀ (l : List UInt8) (i : Nat), Lib.indexByte l c = (i : Int) → i < l.length ∧ pieces c l = l.take i :: pieces c (l.drop (i + 1))
  | [], i, h => by simp [Lib.indexByte] at h
  | b :: l, i, h => by
    by_cases hb : b = c
    · subst hb
      simp only [Lib.indexByte, beq_self_eq_true, if_true] at h
      obtain rfl : i = 0 := by omega
      exact ⟨by simp, by simp [pieces]⟩
    · have hb' : (b == c) = false := by simpa using hb
      have hg := Lib.indexByte_ge l c
      rw [Lib.indexByte, hb'] at h
      by_cases e : Lib.indexByte l c = -1
      · simp [e] at h
      · have e' : (Lib.indexByte l c == -1) = false := by simpa using e
        simp only [Bool.false_eq_true, if_false, e'] at h
        obtain ⟨j, rfl⟩ : ∃ j, i = j + 1 := ⟨i - 1, by omega⟩
        obtain ⟨h1, h2⟩ := pieces_some c l j (by omega)
        exact ⟨by simp; omega, by rw [pieces, if_neg hb, h2]; rfl⟩
theorem pieces_len (c : UInt8) : ∀ l, (pieces c l).length ≤ l.length + 1
  | [] => by simp [pieces]
  | b :: l => by
    have := pieces_len c l
    unfold pieces
    split
    · simpa using this
    · split
      · simp
      · rename_i p r h
        rw [h] at this
        simp at this ⊢
        omega

/-- What a round keeps: the iterator's boxes. -/
def KpS (Bp Bs Bv : Nat) (W W' : World) : Prop := W'.heap[Bp]? = W.heap[Bp]? ∧ W'.heap[Bs]? = W.heap[Bs]? ∧ W'.heap[Bv]? = W.heap[Bv]?
theorem boxed_of {W W' : World} {B : Nat} {t : TypeId} {v : Value} (h : Boxed W B t v) (e : W'.heap[B]? = W.heap[B]?) : Boxed W' B t v := e.trans h
def lsS (ys : List ByteArray) : List (List UInt8) := ys.map (fun y => y.data.toList)

/-- The length of the text that a box holds. -/
def sizeAt (B : Nat) (w : World) : Nat := match w.cell? ⟨B, 0, none⟩ with
  | some (.string s) => s.size
  | _ => 0
theorem sizeAt_of {B : Nat} {w : World} {s : ByteArray} (h : Boxed w B 9 (.string s)) : sizeAt B w = s.size := by rw [sizeAt, h.cell]
set_option maxRecDepth 100000 in
set_option maxHeartbeats 2000000 in
theorem split_stops (n : Nat) (hn : 1 ≤ n) (Bp Bs Bv : Nat) (h1 : Bp ≠ Bs) (h2 : Bv ≠ Bs) (c : UInt8) (s : ByteArray) (w : World) (hs : s.size ≤ 140737488355328)
    (bp : Boxed w Bp 9 (.string ⟨#[c]⟩)) (bs : Boxed w Bs 9 (.string s)) (bv : Boxed w Bv 3 (.int .i64 0)) :
    SeqZ Fence.wide n Tryd.prog 117 #[.pointer (some ⟨Bp, 0, none⟩), .pointer (some ⟨Bs, 0, none⟩), .pointer (some ⟨Bv, 0, none⟩)] (fun y : ByteArray => #[.string y]) (KpS Bp Bs Bv) (fun r => r = Bs)
      (fun ys => lsS ys = pieces c s.data.toList) (fun pre => lsS pre <+: pieces c s.data.toList) (pieces c s.data.toList).length w := by
  intro l J Jx W hW hJ hJx hY h0
  replace bp : Boxed W Bp 9 (.string ⟨#[c]⟩) := (hW.block _ bp.lt).trans bp
  replace bs : Boxed W Bs 9 (.string s) := (hW.block _ bs.lt).trans bs
  replace bv : Boxed W Bv 3 (.int .i64 0) := (hW.block _ bv.lt).trans bv
  clear hW
  show CallsIn Fence.wide n Tryd.prog 117 #[.func (.yield l) #[] #[], .pointer (some ⟨Bp, 0, none⟩), .pointer (some ⟨Bs, 0, none⟩), .pointer (some ⟨Bv, 0, none⟩)] W _
  refine callsIn_of_wp Tryd.func117 rfl trivial ?_ rfl
  simp only [Tryd.ntmps117, List.size_toArray, List.length_cons, List.length_nil, Nat.reduceAdd, Nat.reduceSub, Array.replicate_succ, Array.replicate_zero, List.push_toArray, List.append_toArray, List.nil_append, List.cons_append]
  have cp := bp.cell
  gi_wp2
  gi_loopw [] (fun wr => ∃ (cur : ByteArray) (pre : List ByteArray), J pre wr ∧ Boxed wr Bp 9 (.string ⟨#[c]⟩) ∧ Boxed wr Bs 9 (.string cur) ∧ Boxed wr Bv 3 (.int .i64 0) ∧ cur.size ≤ 140737488355328 ∧ lsS pre ++ pieces c cur.data.toList = pieces c s.data.toList)
    (fun wr => sizeAt Bs wr)
  case atStart => exact ⟨s, [], h0, bp, bs, bv, hs, rfl⟩
  case round =>
    clear bp bs bv cp h0 hs
    obtain ⟨cur, pre, hJ0, bp, bs, bv, hc, hpc⟩ := hrel
    have cp := bp.cell
    have cs := bs.cell
    have cv := bv.cell
    have fs := bs.frozen
    have hlen : pre.length + (pieces c cur.data.toList).length = (pieces c s.data.toList).length := by rw [← hpc]; simp [lsS]
    have hI := Tryd.strings_Index_one cur c
    by_cases hi : Lib.indexByte cur.data.toList c = -1
    · rw [hi] at hI
      have hp1 := pieces_none c _ hi
      obtain ⟨fn, tmps, assign, body, hy, hR⟩ := hY pre cur wr hJ0 (by rw [hp1] at hlen; simp at hlen; omega)
      have HPC := Lib.hid hpc
      clear hpc hlen
      gi_wp2_with (refine ⟨trivial, ?_⟩; gi_at_call 105; refine (callsIn_wide.2 (hI _)).mono ?_; rintro e w1 ⟨rfl, hw1⟩; rw [hw1])
      refine hR.mono ?_
      rintro e W3 (⟨rfl, hJ3, hk3⟩ | ⟨rfl, hJx3⟩)
      · gi_wp2
        go_end0
        exact ⟨⟨_, rfl⟩, .inl ⟨pre ++ [cur], by rw [← HPC.out, hp1]; simp [lsS], hJ3⟩⟩
      · gi_wp2
        go_end0
        exact ⟨⟨_, rfl⟩, .inr ⟨pre ++ [cur], by rw [← HPC.out, hp1]; simp [lsS], hJx3⟩⟩
    · obtain ⟨i, hi'⟩ : ∃ i : Nat, Lib.indexByte cur.data.toList c = (i : Int) := ⟨(Lib.indexByte cur.data.toList c).toNat, by have := Lib.indexByte_ge cur.data.toList c; omega⟩
      clear hi
      rw [hi'] at hI
      obtain ⟨hil, hp1⟩ := pieces_some c _ i hi'
      clear hi'
      have hil' : i < cur.size := by rw [Array.length_toList] at hil; exact hil
      clear hil
      have t1 : (cur.extract 0 i).data.toList = cur.data.toList.take i := by simp
      have t2 : (cur.extract (i + 1) cur.size).data.toList = cur.data.toList.drop (i + 1) := by
        simp only [ByteArray.data_extract, Array.toList_extract]
        exact List.take_of_length_le (by simp)
      rw [← t1, ← t2] at hp1
      have tz : (cur.extract (i + 1) cur.size).size = cur.size - (i + 1) := by simp
      clear t1 t2
      obtain ⟨fn, tmps, assign, body, hy, hR⟩ := hY pre (cur.extract 0 i) wr hJ0 (by
        rw [hp1] at hlen
        have := pieces_pos c (cur.extract (i + 1) cur.size).data.toList
        simp only [List.length_cons] at hlen
        omega)
      have hw0 : IntKind.i64.wrap (i : Int) = (i : Int) := wrap_small _ (by omega) (by omega)
      have hw1 : IntKind.i64.wrap ((i : Int) + 1) = (i : Int) + 1 := wrap_small _ (by omega) (by omega)
      have sl1 : ∀ W, (Instr.slice 9 (.string cur) none (some (.int .i64 (IntKind.i64.wrap (i : Int)))) none).run Tryd.prog W = .ok (.string (cur.extract 0 i)) W := fun W => by
        rw [hw0, run_slice_string_to_if W 9 cur .i64 _ Tryd.underlying9, if_pos ⟨by omega, by omega⟩, Int.toNat_natCast]
      have sl2 : ∀ W, (Instr.slice 9 (.string cur) (some (.int .i64 (IntKind.i64.wrap ((i : Int) + 1)))) none none).run Tryd.prog W = .ok (.string (cur.extract (i + 1) cur.size)) W := fun W => by
        rw [hw1, run_slice_string_from_if W 9 cur .i64 _ Tryd.underlying9, if_pos ⟨by omega, by omega⟩]
        rfl
      clear hw0 hw1
      have HPC := Lib.hid hpc
      have HP1 := Lib.hid hp1
      clear hpc hlen hp1
      gi_wp2_with (refine ⟨trivial, ?_⟩; gi_at_call 105; refine (callsIn_wide.2 (hI _)).mono ?_; rintro e w1 ⟨rfl, hw1⟩; rw [hw1])
      refine hR.mono ?_
      rintro e W3 (⟨rfl, hJ3, hk3⟩ | ⟨rfl, hJx3⟩)
      · have bp3 := boxed_of bp hk3.1
        have bs3 := boxed_of bs hk3.2.1
        have bv3 := boxed_of bv hk3.2.2
        have cp3 := bp3.cell
        have cs3 := bs3.cell
        have fs3 := bs3.frozen
        gi_wp2
        go_roundw
        case rel => exact ⟨cur.extract (i + 1) cur.size, pre ++ [cur.extract 0 i], hJ _ _ _ _ hJ3 (grownBy_setCell' _ _ _) (fun r e => .inr (Option.some.inj e).symm), bp3.other h1 _, bs3.set _, bv3.other h2 _, by omega, by rw [← HPC.out, HP1.out]; simp [lsS]⟩
        case measure => rw [sizeAt_of (bs3.set _), sizeAt_of bs]; omega
      · gi_wp2
        refine bodyPost_ret (results_none rfl _ _ _) rfl ?_
        exact ⟨⟨_, rfl⟩, .inr ⟨pre ++ [cur.extract 0 i], by rw [← HPC.out, HP1.out]; simp [lsS], hJx3⟩⟩
end Go.Proofs.YthhohbidjhcjeaaDoor.H
