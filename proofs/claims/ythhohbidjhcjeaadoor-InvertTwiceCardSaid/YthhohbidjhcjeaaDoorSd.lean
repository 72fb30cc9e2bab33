/- The contract of path.Right: whatever text it is given, it tells whether that is a path. -/
import Derived.Test.YthhohbidjhcjeaaDoorSb
import Derived.Test.YthhohbidjhcjeaaDoorSc
import Derived.RangeFuncCalls
import Derived.RangeFuncLeaves
namespace Go.Proofs.YthhohbidjhcjeaaDoor.H
open Go.RowKit Go.Shelf Go.Proofs.YthhohbidjhcjeaaDoor.RB
attribute [local go_sem] Oper.semAt_some

/-- Is a text a path? -/
def rightB (s : ByteArray) : Bool := (pieces 47 s.data.toList).all (fun y => partB ⟨y.toArray⟩) && decide ((pieces 47 s.data.toList).length ≤ 8)
theorem splitSeq1_in (n : Nat) (s sep : ByteArray) (w : World) :
    CallsIn Fence.wide n Tryd.prog 99 #[.string s, .string sep, .int .i64 0] w fun e w' => e = .returned (.func (.func 117) #[] #[.pointer (some ⟨w.heap.size + 1, 0, none⟩), .pointer (some ⟨w.heap.size, 0, none⟩), .pointer (some ⟨w.heap.size + 2, 0, none⟩)]) ∧
      w' = ((w.alloc (.cells #[.string s] 9)).alloc (.cells #[.string sep] 9)).alloc (.cells #[.int .i64 0] 3) := by
  refine callsIn_of_wp Tryd.func99 rfl trivial ?_ rfl
  simp only [Tryd.ntmps99, List.size_toArray, List.length_cons, List.length_nil, Nat.reduceAdd, Nat.reduceSub, Array.replicate_succ, Array.replicate_zero, List.push_toArray, List.append_toArray, List.nil_append, List.cons_append]
  gi_wp2
  go_ret
  exact ⟨rfl, rfl⟩
theorem splitSeq_in (n : Nat) (s sep : ByteArray) (w : World) :
    CallsIn Fence.wide n Tryd.prog 76 #[.string s, .string sep] w fun e w' => e = .returned (.func (.func 117) #[] #[.pointer (some ⟨w.heap.size + 1, 0, none⟩), .pointer (some ⟨w.heap.size, 0, none⟩), .pointer (some ⟨w.heap.size + 2, 0, none⟩)]) ∧
      w' = ((w.alloc (.cells #[.string s] 9)).alloc (.cells #[.string sep] 9)).alloc (.cells #[.int .i64 0] 3) := by
  refine callsIn_of_wp Tryd.func76 rfl trivial ?_ rfl
  simp only [Tryd.ntmps76, List.size_toArray, List.length_cons, List.length_nil, Nat.reduceAdd, Nat.reduceSub, Array.replicate_succ, Array.replicate_zero, List.push_toArray, List.append_toArray, List.nil_append, List.cons_append]
  gi_wp2_with (refine ⟨trivial, (by intro h; cases h), ?_⟩; gi_at_call 99; refine (splitSeq1_in _ _ _ _).mono ?_; rintro e w1 ⟨rfl, rfl⟩)
  go_ret
  exact ⟨rfl, rfl⟩

set_option maxRecDepth 100000 in
set_option maxHeartbeats 2000000 in
theorem right_in (s : ByteArray) (w : World) (hs : s.size ≤ 140737488355328) :
    CallsIn Fence.wide 6 Tryd.prog 46 #[.string s] w fun e w' => e = .returned (.bool (rightB s)) ∧ Below w.heap.size w w' := by
  refine callsIn_of_wp_marks Tryd.func46 rfl trivial ?_ rfl
  simp only [Tryd.ntmps46, List.size_toArray, List.length_cons, List.length_nil, Nat.reduceAdd, Nat.reduceSub, Array.replicate_succ, Array.replicate_zero, List.push_toArray, List.append_toArray, List.nil_append, List.cons_append]
  gi_wp2_with (refine ⟨trivial, ?_⟩; gi_at_call 76; refine (splitSeq_in _ _ _ _).mono ?_; rintro e w1 ⟨rfl, rfl⟩)
  have bR := (((((Boxed.new w 4 (.bool false)).alloc (.cells #[.int .i64 0] 3)).alloc (.cells #[.string s] 9)).alloc (.cells #[.string ⟨#[47]⟩] 9)).alloc (.cells #[.int .i64 0] 3))
  have bN := ((((Boxed.new (w.alloc (.cells #[.bool false] 4)) 3 (.int .i64 0)).alloc (.cells #[.string s] 9)).alloc (.cells #[.string ⟨#[47]⟩] 9)).alloc (.cells #[.int .i64 0] 3))
  have bs := ((Boxed.new ((w.alloc (.cells #[.bool false] 4)).alloc (.cells #[.int .i64 0] 3)) 9 (.string s)).alloc (.cells #[.string ⟨#[47]⟩] 9)).alloc (.cells #[.int .i64 0] 3)
  have bp := (Boxed.new (((w.alloc (.cells #[.bool false] 4)).alloc (.cells #[.int .i64 0] 3)).alloc (.cells #[.string s] 9)) 9 (.string ⟨#[47]⟩)).alloc (.cells #[.int .i64 0] 3)
  have bv := Boxed.new ((((w.alloc (.cells #[.bool false] 4)).alloc (.cells #[.int .i64 0] 3)).alloc (.cells #[.string s] 9)).alloc (.cells #[.string ⟨#[47]⟩] 9)) 3 (.int .i64 0)
  simp only [World.size_alloc] at bN bs bp bv
  have hB0 : Below w.heap.size w (((((w.alloc (.cells #[.bool false] 4)).alloc (.cells #[.int .i64 0] 3)).alloc (.cells #[.string s] 9)).alloc (.cells #[.string ⟨#[47]⟩] 9)).alloc (.cells #[.int .i64 0] 3)) :=
    (((((Below.refl _ w).alloc (Nat.le_refl _) _).alloc (by simp) _).alloc (by simp; omega) _).alloc (by simp; omega) _).alloc (by simp; omega) _
  have hsz : (((((w.alloc (.cells #[.bool false] 4)).alloc (.cells #[.int .i64 0] 3)).alloc (.cells #[.string s] 9)).alloc (.cells #[.string ⟨#[47]⟩] 9)).alloc (.cells #[.int .i64 0] 3)).heap.size = w.heap.size + 5 := by simp
  obtain ⟨W0, hW0⟩ : ∃ W0, (((((w.alloc (.cells #[.bool false] 4)).alloc (.cells #[.int .i64 0] 3)).alloc (.cells #[.string s] 9)).alloc (.cells #[.string ⟨#[47]⟩] 9)).alloc (.cells #[.int .i64 0] 3)) = W0 := ⟨_, rfl⟩
  rw [hW0] at bR bN bs bp bv hB0 hsz ⊢
  clear hW0
  have hpl := pieces_len 47 s.data.toList
  have hsl : s.data.toList.length = s.size := by rw [Array.length_toList]; rfl
  refine wpIn_rangeFunc_boxes (F := Fence.wide) (α := ByteArray) (Z := fun r => r = w.heap.size + 1 + 1) rfl (by omega) (gf := 117)
    (lb := #[.pointer (some ⟨w.heap.size + 1 + 1 + 1, 0, none⟩), .pointer (some ⟨w.heap.size + 1 + 1, 0, none⟩), .pointer (some ⟨w.heap.size + 1 + 1 + 2, 0, none⟩)]) rfl trivial (enters_of Tryd.func117 (by kernel_rfl) rfl)
    (split_stops 5 (by omega) (w.heap.size + 1 + 1 + 1) (w.heap.size + 1 + 1) (w.heap.size + 1 + 1 + 2) (by omega) (by omega) 47 s W0 hs bp bs bv) (fun r e => by omega) ?kt ?kb (Below.refl _ _) (fun _ => rfl)
    (fun pre W => Boxed W w.heap.size 4 (.bool false) ∧ Boxed W (w.heap.size + 1) 3 (.int .i64 (pre.length : Int)) ∧ (∀ y ∈ pre, partB y = true) ∧ Below w.heap.size w W ∧ w.heap.size + 5 ≤ W.heap.size)
    (fun _ pre W => Boxed W w.heap.size 4 (.bool false) ∧ (∃ y ∈ pre, partB y = false) ∧ Below w.heap.size w W)
    ?own ?ownx ⟨bR, bN, by simp, hB0, by omega⟩
    (fun x => { tmps := #[.string s, undef, .pointer (some ⟨w.heap.size, 0, none⟩), .pointer (some ⟨w.heap.size + 1, 0, none⟩), .string x, .string s, .func (.func 117) #[] #[.pointer (some ⟨w.heap.size + 1 + 1 + 1, 0, none⟩), .pointer (some ⟨w.heap.size + 1 + 1, 0, none⟩), .pointer (some ⟨w.heap.size + 1 + 1 + 2, 0, none⟩)], .string x, undef, undef, undef, undef, undef, undef, undef], defers := [] })
    ?assign ?body ?done ?stop
  case kt => exact fun h k => ⟨k.1.trans h.1, k.2.1.trans h.2.1, k.2.2.trans h.2.2⟩
  case kb => exact fun W l o o' hl _ _ _ => ⟨World.putObj_heap_other (by omega), World.putObj_heap_other (by omega), World.putObj_heap_other (by omega)⟩
  case own =>
    rintro pre X Y row ⟨h1, h2, h3, h4, h6⟩ hg hr
    have ne : ∀ B t v, Boxed X B t v → B ≠ w.heap.size + 1 + 1 → some B ≠ row := fun B t v hb hB e => by
      rcases hr B e.symm with ⟨_, o, ho, hc⟩ | h5
      · rw [show X.heap[B]? = _ from hb] at ho
        cases ho
        cases hc
      · exact hB h5
    exact ⟨h1.kept hg (ne _ _ _ h1 (by omega)), h2.kept hg (ne _ _ _ h2 (by omega)), h3, Below.grown h4 hg (by have := h1.lt; omega) (fun r e => by rcases hr r e with ⟨h5, _⟩ | h5 <;> omega), Nat.le_trans h6 hg.size⟩
  case ownx =>
    rintro _ pre X Y row ⟨h1, h3, h4⟩ hg hr
    have ne : ∀ B t v, Boxed X B t v → B ≠ w.heap.size + 1 + 1 → some B ≠ row := fun B t v hb hB e => by
      rcases hr B e.symm with ⟨_, o, ho, hc⟩ | h5
      · rw [show X.heap[B]? = _ from hb] at ho
        cases ho
        cases hc
      · exact hB h5
    exact ⟨h1.kept hg (ne _ _ _ h1 (by omega)), h3, Below.grown h4 hg (by have := h1.lt; omega) (fun r e => by rcases hr r e with ⟨h5, _⟩ | h5 <;> omega)⟩
  case assign =>
    intro l x W K hK
    gi_wp2
    exact hK
  case body =>
    rintro l pre x W ⟨h1, h2, h3, h4, h6⟩ hlt
    have hP := part_calls x
    have c1 := h1.cell
    have f1 := h1.frozen
    have c2 := h2.cell
    have f2 := h2.frozen
    have hw : IntKind.i64.wrap ((pre.length : Int) + 1) = ((pre ++ [x]).length : Int) := by
      rw [wrap_small _ (by omega) (by omega)]
      simp
    cases hb : partB x with
    | false =>
      rw [hb] at hP
      gi_wp2_with (refine ⟨trivial, ?_⟩; gi_at_call 77; refine (CallsIn.inRound l (callsIn_wide.2 (hP _))).mono ?_; rintro e w1 ⟨rfl, hb1⟩; have g1 := boxed_of h1 (hb1.block _ h1.lt); have c3 := g1.cell; have f3 := g1.frozen)
      have hke : KeepsOthers W w1 := ⟨hb1.size, fun k o hk _ => (hb1.block k (Array.getElem?_eq_some_iff.1 hk).1).trans hk⟩
      refine ⟨(hke.trans (KeepsOthers.setCell _ _ _)).from _, g1.set _, ⟨x, by simp, hb⟩, ?_⟩
      refine Below.setCell (p := ⟨w.heap.size, 0, none⟩) ?_ (Nat.le_refl _) _
      exact h4.trans (hb1.mono h4.size)
    | true =>
      rw [hb] at hP
      gi_wp2_with (refine ⟨trivial, ?_⟩; gi_at_call 77; refine (CallsIn.inRound l (callsIn_wide.2 (hP _))).mono ?_; rintro e w1 ⟨rfl, hb1⟩; have g1 := boxed_of h1 (hb1.block _ h1.lt); have g2 := boxed_of h2 (hb1.block _ h2.lt); have c3 := g2.cell; have f3 := g2.frozen)
      have hke : KeepsOthers W w1 := ⟨hb1.size, fun k o hk _ => (hb1.block k (Array.getElem?_eq_some_iff.1 hk).1).trans hk⟩
      have hsz1 := hb1.size
      have far : ∀ k, k < w.heap.size + 5 → k ≠ w.heap.size + 1 → ∀ v, (w1.setCell ⟨w.heap.size + 1, 0, none⟩ v).heap[k]? = W.heap[k]? := fun k hk hne v =>
        ((grownBy_setCell' w1 (w.heap.size + 1) v).block k (by omega) (by simp; omega)).trans (hb1.block k (by omega))
      refine ⟨(hke.trans (KeepsOthers.setCell _ _ _)).from _, ⟨far _ (by omega) (by omega) _, far _ (by omega) (by omega) _, far _ (by omega) (by omega) _⟩, g1.other (by omega) _, ?_, ?_, ?_, ?_⟩
      · have e : ((pre ++ [x]).length : Int) = (pre.length : Int) + 1 := by simp
        rw [e]
        exact g2.set _
      · intro y hy
        rcases List.mem_append.1 hy with hy | hy
        · exact h3 y hy
        · rw [List.mem_singleton.1 hy]; exact hb
      · refine Below.setCell (p := ⟨w.heap.size + 1, 0, none⟩) ?_ (Nat.le_succ _) _
        exact h4.trans (hb1.mono h4.size)
      · rw [World.size_setCell]
        omega
  case done =>
    rintro D xs W hD hS ⟨h1, h2, h3, h4, h6⟩ hdf
    have c1 := h1.cell
    have f1 := h1.frozen
    have c2 := h2.cell
    have hr : rightB s = decide ((xs.length : Int) ≤ 8) := by
      have e : xs.length = (pieces 47 s.data.toList).length := by rw [← hS]; simp [lsS]
      have ha : (pieces 47 s.data.toList).all (fun y => partB ⟨y.toArray⟩) = true := by
        rw [← hS, List.all_eq_true]
        intro y hy
        obtain ⟨z, hz, rfl⟩ := List.mem_map.1 hy
        exact h3 z hz
      rw [rightB, ha, e, Bool.true_and]
      exact decide_eq_decide.2 (by omega)
    gi_wp2
    have hdf2 : (W.setCell ⟨w.heap.size, 0, none⟩ (.bool (decide ((xs.length : Int) ≤ 8)))).heap[D]? = some (.deferred (some [])) := ((grownBy_setCell' W w.heap.size _).block D (Array.getElem?_eq_some_iff.1 hdf).1 (by simp; omega)).trans hdf
    refine ⟨by simp, .inl ⟨_, _, rfl, run_takeDeferred hdf2, ?_⟩⟩
    have bE : Boxed ((W.setCell ⟨w.heap.size, 0, none⟩ (.bool (decide ((xs.length : Int) ≤ 8)))).putObj D (.deferred none)) w.heap.size 4 (.bool (decide ((xs.length : Int) ≤ 8))) := (World.putObj_heap_other (by omega)).trans (h1.set _)
    have cE := bE.cell
    refine ⟨.bool (decide ((xs.length : Int) ≤ 8)), by simp [results, Tryd.results46, go_sem, cE], by rw [hr], ?_⟩
    refine Below.trans ?_ (belowK_b (w := w) (Nat.le_refl _) _ D _ _ (by omega) hdf2 rfl rfl)
    exact Below.setCell (p := ⟨w.heap.size, 0, none⟩) h4 (Nat.le_refl _) _
  case stop =>
    rintro D pre W hD hSp ⟨h1, ⟨y, hy, hyp⟩, h4⟩ hdf
    have c1 := h1.cell
    have hr : rightB s = false := by
      have ha : (pieces 47 s.data.toList).all (fun y => partB ⟨y.toArray⟩) = false := by
        rw [List.all_eq_false]
        refine ⟨y.data.toList, hSp.subset (List.mem_map.2 ⟨y, hy, rfl⟩), ?_⟩
        have : (⟨y.data.toList.toArray⟩ : ByteArray) = y := rfl
        rw [this, hyp]
        simp
      rw [rightB, ha, Bool.false_and]
    gi_wp2
    refine ⟨by simp, .inl ⟨_, _, rfl, run_takeDeferred hdf, ?_⟩⟩
    have bE : Boxed (W.putObj D (.deferred none)) w.heap.size 4 (.bool false) := (World.putObj_heap_other (by omega)).trans h1
    have cE := bE.cell
    refine ⟨.bool false, by simp [results, Tryd.results46, go_sem, cE], by rw [hr], ?_⟩
    exact Below.trans h4 (belowK_b (w := w) (Nat.le_refl _) _ D _ _ (by omega) hdf rfl rfl)
end Go.Proofs.YthhohbidjhcjeaaDoor.H
