/- Contracts of strings.IndexRune and ContainsRune on the letters of paths, at every rune, and of path.part's predicate. Contracts of path.part and path.Right. The contract of the iterator of strings.SplitSeq over a sign: it hands the pieces between the signs, one behind the other. The contract of path.Right: whatever text it is given, it tells whether that is a path. The contracts of path.Right and lines.Right, in the form that printed callers ask. -/
import Derived.Test.YthhohbidjhcjeaaDoorTShelf
import Derived.Laws.Runes
import Derived.Laws.RangeAny
import Derived.Shelf.Strings.FuncGrows
import Derived.Lib.OthersKept
import Derived.Deep.LoopGhost
import Derived.WalkKit
import Derived.WalkMore
import Derived.Tactics
import Derived.KernelRfl
import Derived.Test.YthhohbidjhcjeaaDoorTRB
import Derived.Lib.IndexLaws
import Derived.Shelf.Abstract
import Derived.Shelf.RegionOpen
import Derived.OwnWalkIn
import Derived.TacticsInMore
import Derived.LoopNIn
import Derived.LoopIn
import Derived.Outline
import Derived.Lib.Hide
import Derived.RangeFuncCalls
import Derived.RangeFuncLeaves
import Derived.Test.YthhohbidjhcjeaaDoorWMore
namespace Go.Proofs.YthhohbidjhcjeaaDoor.H
open Go.RowKit Go.Lib Go.Shelf

/-- The letters that parts of paths are made of. -/
def letters : ByteArray:=⟨#[97,98,99,100,101,102,103,104,105,106,107,108,109,110,111,112,113,114,115,116,117,118,119,120,121,122,48,49,50,51,52,53,54,55,56,57,46,95,45]⟩
theorem letters_low : ∀ b ∈ letters.data.toList,b.toNat < 128:=by decide +kernel
theorem letters_size : letters.size = 39:=by decide +kernel
theorem letters_decode : ∀ p,p < 39 → (Utf8.decode letters p).1 < 128 ∧ (Utf8.decode letters p).2 = 1:=by decide +kernel
theorem indexByte_none (l : List UInt8) (c : UInt8) (h : ∀ b ∈ l,b.toNat < 128) (hc : 128 ≤ c.toNat) : Lib.indexByte l c = -1:=by
 induction l with
 | nil => rfl
 | cons b l ih =>
  have hb : (b == c) = false:=by
   have h1:=h b (by simp)
   simp only [beq_eq_false_iff_ne,ne_eq]
   rintro rfl
   omega
  rw [Lib.indexByte,hb,ih (fun x hx => h x (by simp [hx]))]
  rfl

set_option maxHeartbeats 2000000 in
set_option maxRecDepth 1000000 in
theorem indexRune_bad (r : Int) (h1 : 128 ≤ r) (hb : Lib.validRune r = false) (w : World) :
  Calls Tryd.prog 120 #[.string letters,.int .i32 r] w fun e w' => e = .returned (.int .i64 (-1)) ∧ Below w.heap.size w w':=by
 have h2 : r ≠ 65533:=by rintro rfl; revert hb; decide
 go_enter Tryd.func120,Tryd.ntmps120
 go_wp2_with (go_at_call 129; refine (Tryd.utf8_ValidRune _ _).mono ?_; rintro e w' ⟨rfl,rfl⟩; rw [hb])
 go_ret
 exact ⟨rfl,Below.refl _ _⟩
set_option maxHeartbeats 2000000 in
set_option maxRecDepth 1000000 in
theorem indexRune_error (w : World) :
  Calls Tryd.prog 120 #[.string letters,.int .i32 65533] w fun e w' => e = .returned (.int .i64 (-1)) ∧ Below w.heap.size w w':=by
 obtain ⟨s,hs⟩ : ∃ s,letters = s:=⟨_,rfl⟩
 have hsz : s.size = 39:=by rw [← hs]; exact letters_size
 have hd:=letters_decode
 rw [hs] at hd
 rw [hs]
 clear hs
 go_enter Tryd.func120,Tryd.ntmps120
 go_wp2
 go_loopg [] s.size (fun gf wx => ∃ pos : Nat,wx.heap[w.heap.size]? = some (.stringIter s pos) ∧ Below w.heap.size w wx ∧ s.size ≤ pos + gf)
 case atStart => exact ⟨0,World.iter_heap w s 0,(Below.refl _ w).alloc (Nat.le_refl _) _,by omega⟩
 case round =>
  obtain ⟨pos,hit,hbw,hfu⟩:=hrel
  by_cases hps : pos < s.size
  ·obtain ⟨g',rfl⟩ : ∃ g',gk = g' + 1:=⟨gk - 1,by omega⟩
   have hnx : ∀ ty,(Instr.next (.pointer (some ⟨w.heap.size,0,none⟩)) true ty).run Tryd.prog wr = _:=fun ty => Lib.run_next_any_at wr w.heap.size s pos ty hit hps
   obtain ⟨hd1,hd2⟩:=hd pos (by omega)
   obtain ⟨R,hR⟩ : ∃ R,(Utf8.decode s pos).1 = R:=⟨_,rfl⟩
   rw [hR] at hnx hd1
   rw [hd2] at hnx
   have hit2:=Lib.iterAt_heap wr w.heap.size s pos (pos + 1) hit
   have hbw2:=Lib.below_iterAt hbw (k:=w.heap.size) (Nat.le_refl _) s (pos + 1)
   obtain ⟨W,hWd⟩ : ∃ W,wr.iterAt w.heap.size s (pos + 1) = W:=⟨_,rfl⟩
   rw [hWd] at hnx hit2 hbw2
   have hne : ((R : Int) == 65533) = false:=by simp; omega
   go_wp2
   go_roundg g'
   case measure => omega
   case rel => exact ⟨pos + 1,hit2,hbw2,by omega⟩
  ·have hnx : ∀ ty,(Instr.next (.pointer (some ⟨w.heap.size,0,none⟩)) true ty).run Tryd.prog wr = _:=fun ty => Lib.run_next_end_at wr w.heap.size s pos ty hit hps
   go_wp2
   go_ret
   exact ⟨rfl,hbw⟩

set_option maxHeartbeats 2000000 in
set_option maxRecDepth 1000000 in
theorem indexRune_valid (r : Int) (h1 : 128 ≤ r) (h2 : r ≠ 65533) (hv : Lib.validRune r = true) (w : World) :
  Calls Tryd.prog 120 #[.string letters,.int .i32 r] w fun e w' => e = .returned (.int .i64 (-1)) ∧ Below w.heap.size w w':=by
 obtain ⟨s,hs⟩ : ∃ s,letters = s:=⟨_,rfl⟩
 have hsz : s.size = 39:=by rw [← hs]; exact letters_size
 have hlow:=letters_low
 rw [hs] at hlow
 rw [hs]
 clear hs
 obtain ⟨e2,e4,elast⟩:=encode_facts r (by rw [validRune_eq]; exact hv) h1
 obtain ⟨E,hE⟩ : ∃ E,Utf8.encode r = E:=⟨_,rfl⟩
 rw [hE] at e2 e4 elast
 obtain ⟨n,hn⟩ : ∃ n,E.size = n + 1:=⟨E.size - 1,by omega⟩
 have hn1 : 1 ≤ n:=by omega
 have hn3 : n ≤ 3:=by omega
 have hlt : n < E.size:=by omega
 have hla : 128 ≤ (E[n]'hlt).toNat:=by
  have h:=elast (by omega)
  have e : E.size - 1 = n:=by omega
  simpa only [e] using h
 clear elast e2 e4
 obtain ⟨c,hc⟩ : ∃ c,E[n]'hlt = c:=⟨_,rfl⟩
 rw [hc] at hla
 have hsn : n < s.size:=by omega
 obtain ⟨b,hb⟩ : ∃ b,s[n]'hsn = b:=⟨_,rfl⟩
 have hbl : b.toNat < 128:=by
  rw [← hb]
  exact hlow _ (Array.getElem_mem_toList (xs:=s.data) hsn)
 have ix1 : ∀ W,(Instr.index 9 (.string s) (.int .i64 (n : Int))).run Tryd.prog W = .ok (.int .u8 b.toNat) W:=fun W => by
  rw [run_index_string W 9 s .i64 _ Tryd.underlying9,dif_pos ⟨by omega,by omega⟩]
  simp only [Int.toNat_natCast,hb]
 have ix2 : ∀ W,(Instr.index 9 (.string E) (.int .i64 (n : Int))).run Tryd.prog W = .ok (.int .u8 c.toNat) W:=fun W => by
  rw [run_index_string W 9 E .i64 _ Tryd.underlying9,dif_pos ⟨by omega,by omega⟩]
  simp only [Int.toNat_natCast,hc]
 have cIB : ∀ (a e : Nat) (W : World),Calls Tryd.prog 128 #[.string (s.extract a e),.int .u8 (c.toNat : Int)] W fun e w' => e = .returned (.int .i64 (-1)) ∧ w' = W:=fun a e W => by
  have h:=Tryd.strings_IndexByte (s.extract a e) (c.toNat : Int) W
  rw [indexByte_none _ _ (fun x hx => hlow x (mem_extract hx)) (by simpa using hla)] at h
  exact h
 have hbc : (((b.toNat : Int)) == (c.toNat : Int)) = false:=by simp only [beq_eq_false_iff_ne,ne_eq]; omega
 have hbc' : (((b.toNat : Int)) != (c.toNat : Int)) = true:=by simp only [bne_iff_ne,ne_eq]; omega
 have hwr : IntKind.i64.wrap ((n : Int) + 1) = (n : Int) + 1:=wrap_small _ (by omega) (by omega)
 have hsl : ∀ W,(Instr.slice 9 (.string s) (some (.int .i64 (IntKind.i64.wrap ((n : Int) + 1)))) none none).run Tryd.prog W = .ok (.string (s.extract (n + 1) s.size)) W:=fun W => by
  rw [hwr,run_slice_string_from_if W 9 s .i64 _ Tryd.underlying9,if_pos ⟨by omega,by omega⟩]
  rfl
 clear hwr
 have hlen : (n : Int) < 39:=by omega
 have hs21 : (Tryd.prog.underlying 21).isSome = true:=by rw [Tryd.underlying21]; rfl
 have hcv : ∀ W,(convert 21 9 (.int .i32 r)).run Tryd.prog W = .ok (.string E) W:=fun W => by rw [run_convert_int_string W 21 9 .i32 r hs21 Tryd.underlying9,hE]
 go_enter Tryd.func120,Tryd.ntmps120
 go_wp2_with (go_at_call 129; refine (Tryd.utf8_ValidRune _ _).mono ?_; rintro e w1 ⟨rfl,hw1⟩; rw [hv,hw1])
 go_step3
 go_wp2
 go_loopg [9] 1 (fun gf v9 wx => v9 = .int .i64 (n : Int) ∧ wx = w)
 case atStart => exact ⟨rfl,rfl⟩
 case round =>
  obtain ⟨rfl,rfl⟩:=hrel
  go_wp2
  go_step3
  go_wp2
  go_region
  all_goals go_wp2
  all_goals go_region_with (go_at_call 128; refine (cIB _ _ _).mono ?_; rintro e w2 ⟨rfl,hw2⟩; rw [hw2])
  all_goals go_wp2
  all_goals simp only [Exit.noGoto_ret,Exit.inBlock,Exit.then]
  all_goals go_ret
  all_goals exact ⟨rfl,by repeat (first | exact Below.refl _ _ | refine Below.drew ?_)⟩

/-- Is a rune one of the letters? -/
def isLetter (r : Nat) : Bool:=decide (r < 128) && decide (0 ≤ Lib.indexByte letters.data.toList r.toUInt8)
theorem containsRune (r : Nat) (hr : r ≤ 1114111) (w : World) :
  Calls Tryd.prog 102 #[.string letters,.int .i32 (r : Int)] w fun e w' => e = .returned (.bool (isLetter r)) ∧ Below w.heap.size w w':=by
 by_cases h : r < 128
 ·refine (Tryd.strings_ContainsRune_ascii letters (r : Int) w (by omega) (by omega)).mono ?_
  rintro e w' ⟨rfl,rfl⟩
  refine ⟨?_,Below.refl _ _⟩
  simp [isLetter,h]
 ·have hI : Calls Tryd.prog 120 #[.string letters,.int .i32 (r : Int)] w fun e w' => e = .returned (.int .i64 (-1)) ∧ Below w.heap.size w w':=by
   by_cases h2 : (r : Int) = 65533
   ·rw [h2]; exact indexRune_error w
   ·cases hv : Lib.validRune (r : Int) with
    | true => exact indexRune_valid _ (by omega) h2 hv w
    | false => exact indexRune_bad _ (by omega) hv w
  have e0 : isLetter r = false:=by simp [isLetter,h]
  rw [e0]
  go_enter Tryd.func102,Tryd.ntmps102
  go_wp2_with (go_at_call 120; refine hI.mono ?_; rintro e w' ⟨rfl,hb⟩)
  go_ret
  exact ⟨rfl,hb⟩
/-- The predicate of path.part: is a rune strange? -/
theorem strange_grows (w : World) : PredGrows Tryd.prog 101 #[] (fun r => !isLetter r) w:=by
 intro W x hx hb
 show Calls Tryd.prog 101 #[.int .i32 (x : Int)] W _
 have hC:=containsRune x hx W
 obtain ⟨s,hs⟩ : ∃ s,letters = s:=⟨_,rfl⟩
 rw [hs] at hC
 unfold letters at hs
 go_enter Tryd.func101,Tryd.ntmps101
 rw [hs]
 go_wp2_with (go_at_call 102; refine hC.mono ?_; rintro e w' ⟨rfl,hb⟩)
 go_ret
 exact ⟨rfl,hb⟩
end Go.Proofs.YthhohbidjhcjeaaDoor.H

namespace Go.Proofs.YthhohbidjhcjeaaDoor.H
open Go.RowKit Go.Lib Go.Shelf

/-- Is a text one part of a path? -/
def strangeB (s : ByteArray) : Bool:=decide (0 ≤ Lib.idxFunc (fun r => !isLetter r) true s)
def partB (s : ByteArray) : Bool:=if s.toList = [] then false else if s.size ≤ 16 then (if s.toList = [46] then false else if s.toList = [46,46] then false else !strangeB s) else false
set_option maxHeartbeats 2000000 in
set_option maxRecDepth 1000000 in
theorem part_calls (s : ByteArray) (w : World) : Calls Tryd.prog 77 #[.string s] w fun e w' => e = .returned (.bool (partB s)) ∧ Below w.heap.size w w':=by
 have hC:=Tryd.strings_ContainsFunc_grows 101 #[] (enters_of Tryd.func101 (by kernel_rfl) rfl) _ s w (strange_grows w)
 have e0 : decide (0 ≤ Lib.idxFunc (fun r => !isLetter r) true s) = strangeB s:=rfl
 rw [e0] at hC
 obtain ⟨b,hb⟩ : ∃ b,strangeB s = b:=⟨_,rfl⟩
 unfold partB
 rw [hb] at hC ⊢
 clear e0 hb
 have hsz : ((s.size : Int) ≤ 16) ↔ s.size ≤ 16:=by omega
 go_enter Tryd.func77,Tryd.ntmps77
 go_wp2_with (go_at_call 100; refine hC.mono ?_; rintro e w' ⟨rfl,hb⟩)
 all_goals go_ret
 all_goals refine ⟨?_,hb⟩
 all_goals simp_all
end Go.Proofs.YthhohbidjhcjeaaDoor.H

namespace Go.Proofs.YthhohbidjhcjeaaDoor.H
open Go.RowKit Go.Shelf Go.Proofs.YthhohbidjhcjeaaDoor.RB
attribute [local go_sem] Oper.semAt_some

/-- The pieces of a text between a sign. -/
def pieces (c : UInt8) : List UInt8 → List (List UInt8)
 | [] => [[]]
 | b :: l => if b = c then [] :: pieces c l else match pieces c l with
  | [] => [[b]]
  | p :: r => (b :: p) :: r
theorem pieces_ne (c : UInt8) : ∀ l,pieces c l ≠ []
 | [] => by simp [pieces]
 | b :: l => by
  unfold pieces
  split
  ·simp
  ·split <;> simp
theorem pieces_pos (c : UInt8) (l : List UInt8) : 1 ≤ (pieces c l).length:=by
 have:=pieces_ne c l
 cases h : pieces c l with
 | nil => exact absurd h this
 | cons p r => simp
theorem pieces_none (c : UInt8) : ∀ (l : List UInt8),Lib.indexByte l c = -1 → pieces c l = [l]
 | [],_ => rfl
 | b :: l,h => by
  have hb : ¬ b = c:=fun e => by
   subst e
   simp [Lib.indexByte] at h
  have hl : Lib.indexByte l c = -1:=by
   have hb' : (b == c) = false:=by simpa using hb
   have hg:=Lib.indexByte_ge l c
   rw [Lib.indexByte,hb'] at h
   by_cases e : Lib.indexByte l c = -1
   ·exact e
   ·have e' : (Lib.indexByte l c == -1) = false:=by simpa using e
    simp only [Bool.false_eq_true,if_false,e'] at h
    omega
  rw [pieces,if_neg hb,pieces_none c l hl]
theorem pieces_some (c : UInt8) : ∀ (l : List UInt8) (i : Nat),Lib.indexByte l c = (i : Int) → i < l.length ∧ pieces c l = l.take i :: pieces c (l.drop (i + 1))
 | [],i,h => by simp [Lib.indexByte] at h
 | b :: l,i,h => by
  by_cases hb : b = c
  ·subst hb
   simp only [Lib.indexByte,beq_self_eq_true,if_true] at h
   obtain rfl : i = 0:=by omega
   exact ⟨by simp,by simp [pieces]⟩
  ·have hb' : (b == c) = false:=by simpa using hb
   have hg:=Lib.indexByte_ge l c
   rw [Lib.indexByte,hb'] at h
   by_cases e : Lib.indexByte l c = -1
   ·simp [e] at h
   ·have e' : (Lib.indexByte l c == -1) = false:=by simpa using e
    simp only [Bool.false_eq_true,if_false,e'] at h
    obtain ⟨j,rfl⟩ : ∃ j,i = j + 1:=⟨i - 1,by omega⟩
    obtain ⟨h1,h2⟩:=pieces_some c l j (by omega)
    exact ⟨by simp; omega,by rw [pieces,if_neg hb,h2]; rfl⟩
theorem pieces_len (c : UInt8) : ∀ l,(pieces c l).length ≤ l.length + 1
 | [] => by simp [pieces]
 | b :: l => by
  have:=pieces_len c l
  unfold pieces
  split
  ·simpa using this
  ·split
   ·simp
   ·rename_i p r h
    rw [h] at this
    simp at this ⊢
    omega

/-- What a round keeps: the iterator's boxes. -/
def KpS (Bp Bs Bv : Nat) (W W' : World) : Prop:=W'.heap[Bp]? = W.heap[Bp]? ∧ W'.heap[Bs]? = W.heap[Bs]? ∧ W'.heap[Bv]? = W.heap[Bv]?
theorem boxed_of {W W' : World} {B : Nat} {t : TypeId} {v : Value} (h : Boxed W B t v) (e : W'.heap[B]? = W.heap[B]?) : Boxed W' B t v:=e.trans h
def lsS (ys : List ByteArray) : List (List UInt8):=ys.map (fun y => y.data.toList)

/-- The length of the text that a box holds. -/
def sizeAt (B : Nat) (w : World) : Nat:=match w.cell? ⟨B,0,none⟩ with
 | some (.string s) => s.size
 | _ => 0
theorem sizeAt_of {B : Nat} {w : World} {s : ByteArray} (h : Boxed w B 9 (.string s)) : sizeAt B w = s.size:=by rw [sizeAt,h.cell]
set_option maxRecDepth 100000 in
set_option maxHeartbeats 2000000 in
theorem split_stops (n : Nat) (hn : 1 ≤ n) (Bp Bs Bv : Nat) (h1 : Bp ≠ Bs) (h2 : Bv ≠ Bs) (c : UInt8) (s : ByteArray) (w : World) (hs : s.size ≤ 140737488355328)
  (bp : Boxed w Bp 9 (.string ⟨#[c]⟩)) (bs : Boxed w Bs 9 (.string s)) (bv : Boxed w Bv 3 (.int .i64 0)) :
  SeqZ Fence.wide n Tryd.prog 117 #[.pointer (some ⟨Bp,0,none⟩),.pointer (some ⟨Bs,0,none⟩),.pointer (some ⟨Bv,0,none⟩)] (fun y : ByteArray => #[.string y]) (KpS Bp Bs Bv) (fun r => r = Bs)
   (fun ys => lsS ys = pieces c s.data.toList) (fun pre => lsS pre <+: pieces c s.data.toList) (pieces c s.data.toList).length w:=by
 intro l J Jx W hW hJ hJx hY h0
 replace bp : Boxed W Bp 9 (.string ⟨#[c]⟩):=(hW.block _ bp.lt).trans bp
 replace bs : Boxed W Bs 9 (.string s):=(hW.block _ bs.lt).trans bs
 replace bv : Boxed W Bv 3 (.int .i64 0):=(hW.block _ bv.lt).trans bv
 clear hW
 show CallsIn Fence.wide n Tryd.prog 117 #[.func (.yield l) #[] #[],.pointer (some ⟨Bp,0,none⟩),.pointer (some ⟨Bs,0,none⟩),.pointer (some ⟨Bv,0,none⟩)] W _
 refine callsIn_of_wp Tryd.func117 rfl trivial ?_ rfl
 simp only [Tryd.ntmps117,List.size_toArray,List.length_cons,List.length_nil,Nat.reduceAdd,Nat.reduceSub,Array.replicate_succ,Array.replicate_zero,List.push_toArray,List.append_toArray,List.nil_append,List.cons_append]
 have cp:=bp.cell
 gi_wp2
 gi_loopw [] (fun wr => ∃ (cur : ByteArray) (pre : List ByteArray),J pre wr ∧ Boxed wr Bp 9 (.string ⟨#[c]⟩) ∧ Boxed wr Bs 9 (.string cur) ∧ Boxed wr Bv 3 (.int .i64 0) ∧ cur.size ≤ 140737488355328 ∧ lsS pre ++ pieces c cur.data.toList = pieces c s.data.toList)
  (fun wr => sizeAt Bs wr)
 case atStart => exact ⟨s,[],h0,bp,bs,bv,hs,rfl⟩
 case round =>
  clear bp bs bv cp h0 hs
  obtain ⟨cur,pre,hJ0,bp,bs,bv,hc,hpc⟩:=hrel
  have cp:=bp.cell
  have cs:=bs.cell
  have cv:=bv.cell
  have fs:=bs.frozen
  have hlen : pre.length + (pieces c cur.data.toList).length = (pieces c s.data.toList).length:=by rw [← hpc]; simp [lsS]
  have hI:=Tryd.strings_Index_one cur c
  by_cases hi : Lib.indexByte cur.data.toList c = -1
  ·rw [hi] at hI
   have hp1:=pieces_none c _ hi
   obtain ⟨fn,tmps,assign,body,hy,hR⟩:=hY pre cur wr hJ0 (by rw [hp1] at hlen; simp at hlen; omega)
   have HPC:=Lib.hid hpc
   clear hpc hlen
   gi_wp2_with (refine ⟨trivial,?_⟩; gi_at_call 105; refine (callsIn_wide.2 (hI _)).mono ?_; rintro e w1 ⟨rfl,hw1⟩; rw [hw1])
   refine hR.mono ?_
   rintro e W3 (⟨rfl,hJ3,hk3⟩ | ⟨rfl,hJx3⟩)
   ·gi_wp2
    go_end0
    exact ⟨⟨_,rfl⟩,.inl ⟨pre ++ [cur],by rw [← HPC.out,hp1]; simp [lsS],hJ3⟩⟩
   ·gi_wp2
    go_end0
    exact ⟨⟨_,rfl⟩,.inr ⟨pre ++ [cur],by rw [← HPC.out,hp1]; simp [lsS],hJx3⟩⟩
  ·obtain ⟨i,hi'⟩ : ∃ i : Nat,Lib.indexByte cur.data.toList c = (i : Int):=⟨(Lib.indexByte cur.data.toList c).toNat,by have:=Lib.indexByte_ge cur.data.toList c; omega⟩
   clear hi
   rw [hi'] at hI
   obtain ⟨hil,hp1⟩:=pieces_some c _ i hi'
   clear hi'
   have hil' : i < cur.size:=by rw [Array.length_toList] at hil; exact hil
   clear hil
   have t1 : (cur.extract 0 i).data.toList = cur.data.toList.take i:=by simp
   have t2 : (cur.extract (i + 1) cur.size).data.toList = cur.data.toList.drop (i + 1):=by
    simp only [ByteArray.data_extract,Array.toList_extract]
    exact List.take_of_length_le (by simp)
   rw [← t1,← t2] at hp1
   have tz : (cur.extract (i + 1) cur.size).size = cur.size - (i + 1):=by simp
   clear t1 t2
   obtain ⟨fn,tmps,assign,body,hy,hR⟩:=hY pre (cur.extract 0 i) wr hJ0 (by
    rw [hp1] at hlen
    have:=pieces_pos c (cur.extract (i + 1) cur.size).data.toList
    simp only [List.length_cons] at hlen
    omega)
   have hw0 : IntKind.i64.wrap (i : Int) = (i : Int):=wrap_small _ (by omega) (by omega)
   have hw1 : IntKind.i64.wrap ((i : Int) + 1) = (i : Int) + 1:=wrap_small _ (by omega) (by omega)
   have sl1 : ∀ W,(Instr.slice 9 (.string cur) none (some (.int .i64 (IntKind.i64.wrap (i : Int)))) none).run Tryd.prog W = .ok (.string (cur.extract 0 i)) W:=fun W => by
    rw [hw0,run_slice_string_to_if W 9 cur .i64 _ Tryd.underlying9,if_pos ⟨by omega,by omega⟩,Int.toNat_natCast]
   have sl2 : ∀ W,(Instr.slice 9 (.string cur) (some (.int .i64 (IntKind.i64.wrap ((i : Int) + 1)))) none none).run Tryd.prog W = .ok (.string (cur.extract (i + 1) cur.size)) W:=fun W => by
    rw [hw1,run_slice_string_from_if W 9 cur .i64 _ Tryd.underlying9,if_pos ⟨by omega,by omega⟩]
    rfl
   clear hw0 hw1
   have HPC:=Lib.hid hpc
   have HP1:=Lib.hid hp1
   clear hpc hlen hp1
   gi_wp2_with (refine ⟨trivial,?_⟩; gi_at_call 105; refine (callsIn_wide.2 (hI _)).mono ?_; rintro e w1 ⟨rfl,hw1⟩; rw [hw1])
   refine hR.mono ?_
   rintro e W3 (⟨rfl,hJ3,hk3⟩ | ⟨rfl,hJx3⟩)
   ·have bp3:=boxed_of bp hk3.1
    have bs3:=boxed_of bs hk3.2.1
    have bv3:=boxed_of bv hk3.2.2
    have cp3:=bp3.cell
    have cs3:=bs3.cell
    have fs3:=bs3.frozen
    gi_wp2
    go_roundw
    case rel => exact ⟨cur.extract (i + 1) cur.size,pre ++ [cur.extract 0 i],hJ _ _ _ _ hJ3 (grownBy_setCell' _ _ _) (fun r e => .inr (Option.some.inj e).symm),bp3.other h1 _,bs3.set _,bv3.other h2 _,by omega,by rw [← HPC.out,HP1.out]; simp [lsS]⟩
    case measure => rw [sizeAt_of (bs3.set _),sizeAt_of bs]; omega
   ·gi_wp2
    refine bodyPost_ret (results_none rfl _ _ _) rfl ?_
    exact ⟨⟨_,rfl⟩,.inr ⟨pre ++ [cur.extract 0 i],by rw [← HPC.out,HP1.out]; simp [lsS],hJx3⟩⟩
end Go.Proofs.YthhohbidjhcjeaaDoor.H

namespace Go.Proofs.YthhohbidjhcjeaaDoor.H
open Go.RowKit Go.Shelf Go.Proofs.YthhohbidjhcjeaaDoor.RB
attribute [local go_sem] Oper.semAt_some

/-- Is a text a path? -/
def rightB (s : ByteArray) : Bool:=(pieces 47 s.data.toList).all (fun y => partB ⟨y.toArray⟩) && decide ((pieces 47 s.data.toList).length ≤ 8)
theorem splitSeq1_in (n : Nat) (s sep : ByteArray) (w : World) :
  CallsIn Fence.wide n Tryd.prog 99 #[.string s,.string sep,.int .i64 0] w fun e w' => e = .returned (.func (.func 117) #[] #[.pointer (some ⟨w.heap.size + 1,0,none⟩),.pointer (some ⟨w.heap.size,0,none⟩),.pointer (some ⟨w.heap.size + 2,0,none⟩)]) ∧
   w' = ((w.alloc (.cells #[.string s] 9)).alloc (.cells #[.string sep] 9)).alloc (.cells #[.int .i64 0] 3):=by
 refine callsIn_of_wp Tryd.func99 rfl trivial ?_ rfl
 simp only [Tryd.ntmps99,List.size_toArray,List.length_cons,List.length_nil,Nat.reduceAdd,Nat.reduceSub,Array.replicate_succ,Array.replicate_zero,List.push_toArray,List.append_toArray,List.nil_append,List.cons_append]
 gi_wp2
 go_ret
 exact ⟨rfl,rfl⟩
theorem splitSeq_in (n : Nat) (s sep : ByteArray) (w : World) :
  CallsIn Fence.wide n Tryd.prog 76 #[.string s,.string sep] w fun e w' => e = .returned (.func (.func 117) #[] #[.pointer (some ⟨w.heap.size + 1,0,none⟩),.pointer (some ⟨w.heap.size,0,none⟩),.pointer (some ⟨w.heap.size + 2,0,none⟩)]) ∧
   w' = ((w.alloc (.cells #[.string s] 9)).alloc (.cells #[.string sep] 9)).alloc (.cells #[.int .i64 0] 3):=by
 refine callsIn_of_wp Tryd.func76 rfl trivial ?_ rfl
 simp only [Tryd.ntmps76,List.size_toArray,List.length_cons,List.length_nil,Nat.reduceAdd,Nat.reduceSub,Array.replicate_succ,Array.replicate_zero,List.push_toArray,List.append_toArray,List.nil_append,List.cons_append]
 gi_wp2_with (refine ⟨trivial,(by intro h; cases h),?_⟩; gi_at_call 99; refine (splitSeq1_in _ _ _ _).mono ?_; rintro e w1 ⟨rfl,rfl⟩)
 go_ret
 exact ⟨rfl,rfl⟩

set_option maxRecDepth 100000 in
set_option maxHeartbeats 2000000 in
theorem right_in (s : ByteArray) (w : World) (hs : s.size ≤ 140737488355328) :
  CallsIn Fence.wide 6 Tryd.prog 46 #[.string s] w fun e w' => e = .returned (.bool (rightB s)) ∧ Below w.heap.size w w':=by
 refine callsIn_of_wp_marks Tryd.func46 rfl trivial ?_ rfl
 simp only [Tryd.ntmps46,List.size_toArray,List.length_cons,List.length_nil,Nat.reduceAdd,Nat.reduceSub,Array.replicate_succ,Array.replicate_zero,List.push_toArray,List.append_toArray,List.nil_append,List.cons_append]
 gi_wp2_with (refine ⟨trivial,?_⟩; gi_at_call 76; refine (splitSeq_in _ _ _ _).mono ?_; rintro e w1 ⟨rfl,rfl⟩)
 have bR:=(((((Boxed.new w 4 (.bool false)).alloc (.cells #[.int .i64 0] 3)).alloc (.cells #[.string s] 9)).alloc (.cells #[.string ⟨#[47]⟩] 9)).alloc (.cells #[.int .i64 0] 3))
 have bN:=((((Boxed.new (w.alloc (.cells #[.bool false] 4)) 3 (.int .i64 0)).alloc (.cells #[.string s] 9)).alloc (.cells #[.string ⟨#[47]⟩] 9)).alloc (.cells #[.int .i64 0] 3))
 have bs:=((Boxed.new ((w.alloc (.cells #[.bool false] 4)).alloc (.cells #[.int .i64 0] 3)) 9 (.string s)).alloc (.cells #[.string ⟨#[47]⟩] 9)).alloc (.cells #[.int .i64 0] 3)
 have bp:=(Boxed.new (((w.alloc (.cells #[.bool false] 4)).alloc (.cells #[.int .i64 0] 3)).alloc (.cells #[.string s] 9)) 9 (.string ⟨#[47]⟩)).alloc (.cells #[.int .i64 0] 3)
 have bv:=Boxed.new ((((w.alloc (.cells #[.bool false] 4)).alloc (.cells #[.int .i64 0] 3)).alloc (.cells #[.string s] 9)).alloc (.cells #[.string ⟨#[47]⟩] 9)) 3 (.int .i64 0)
 simp only [World.size_alloc] at bN bs bp bv
 have hB0 : Below w.heap.size w (((((w.alloc (.cells #[.bool false] 4)).alloc (.cells #[.int .i64 0] 3)).alloc (.cells #[.string s] 9)).alloc (.cells #[.string ⟨#[47]⟩] 9)).alloc (.cells #[.int .i64 0] 3)) :=
  (((((Below.refl _ w).alloc (Nat.le_refl _) _).alloc (by simp) _).alloc (by simp; omega) _).alloc (by simp; omega) _).alloc (by simp; omega) _
 have hsz : (((((w.alloc (.cells #[.bool false] 4)).alloc (.cells #[.int .i64 0] 3)).alloc (.cells #[.string s] 9)).alloc (.cells #[.string ⟨#[47]⟩] 9)).alloc (.cells #[.int .i64 0] 3)).heap.size = w.heap.size + 5:=by simp
 obtain ⟨W0,hW0⟩ : ∃ W0,(((((w.alloc (.cells #[.bool false] 4)).alloc (.cells #[.int .i64 0] 3)).alloc (.cells #[.string s] 9)).alloc (.cells #[.string ⟨#[47]⟩] 9)).alloc (.cells #[.int .i64 0] 3)) = W0:=⟨_,rfl⟩
 rw [hW0] at bR bN bs bp bv hB0 hsz ⊢
 clear hW0
 have hpl:=pieces_len 47 s.data.toList
 have hsl : s.data.toList.length = s.size:=by rw [Array.length_toList]; rfl
 refine wpIn_rangeFunc_boxes (F:=Fence.wide) (α:=ByteArray) (Z:=fun r => r = w.heap.size + 1 + 1) rfl (by omega) (gf:=117)
  (lb:=#[.pointer (some ⟨w.heap.size + 1 + 1 + 1,0,none⟩),.pointer (some ⟨w.heap.size + 1 + 1,0,none⟩),.pointer (some ⟨w.heap.size + 1 + 1 + 2,0,none⟩)]) rfl trivial (enters_of Tryd.func117 (by kernel_rfl) rfl)
  (split_stops 5 (by omega) (w.heap.size + 1 + 1 + 1) (w.heap.size + 1 + 1) (w.heap.size + 1 + 1 + 2) (by omega) (by omega) 47 s W0 hs bp bs bv) (fun r e => by omega) ?kt ?kb (Below.refl _ _) (fun _ => rfl)
  (fun pre W => Boxed W w.heap.size 4 (.bool false) ∧ Boxed W (w.heap.size + 1) 3 (.int .i64 (pre.length : Int)) ∧ (∀ y ∈ pre,partB y = true) ∧ Below w.heap.size w W ∧ w.heap.size + 5 ≤ W.heap.size)
  (fun _ pre W => Boxed W w.heap.size 4 (.bool false) ∧ (∃ y ∈ pre,partB y = false) ∧ Below w.heap.size w W)
  ?own ?ownx ⟨bR,bN,by simp,hB0,by omega⟩
  (fun x => { tmps:=#[.string s,undef,.pointer (some ⟨w.heap.size,0,none⟩),.pointer (some ⟨w.heap.size + 1,0,none⟩),.string x,.string s,.func (.func 117) #[] #[.pointer (some ⟨w.heap.size + 1 + 1 + 1,0,none⟩),.pointer (some ⟨w.heap.size + 1 + 1,0,none⟩),.pointer (some ⟨w.heap.size + 1 + 1 + 2,0,none⟩)],.string x,undef,undef,undef,undef,undef,undef,undef],defers:=[] })
  ?assign ?body ?done ?stop
 case kt => exact fun h k => ⟨k.1.trans h.1,k.2.1.trans h.2.1,k.2.2.trans h.2.2⟩
 case kb => exact fun W l o o' hl _ _ _ => ⟨World.putObj_heap_other (by omega),World.putObj_heap_other (by omega),World.putObj_heap_other (by omega)⟩
 case own =>
  rintro pre X Y row ⟨h1,h2,h3,h4,h6⟩ hg hr
  have ne : ∀ B t v,Boxed X B t v → B ≠ w.heap.size + 1 + 1 → some B ≠ row:=fun B t v hb hB e => by
   rcases hr B e.symm with ⟨_,o,ho,hc⟩ | h5
   ·rw [show X.heap[B]? = _ from hb] at ho
    cases ho
    cases hc
   ·exact hB h5
  exact ⟨h1.kept hg (ne _ _ _ h1 (by omega)),h2.kept hg (ne _ _ _ h2 (by omega)),h3,Below.grown h4 hg (by have:=h1.lt; omega) (fun r e => by rcases hr r e with ⟨h5,_⟩ | h5 <;> omega),Nat.le_trans h6 hg.size⟩
 case ownx =>
  rintro _ pre X Y row ⟨h1,h3,h4⟩ hg hr
  have ne : ∀ B t v,Boxed X B t v → B ≠ w.heap.size + 1 + 1 → some B ≠ row:=fun B t v hb hB e => by
   rcases hr B e.symm with ⟨_,o,ho,hc⟩ | h5
   ·rw [show X.heap[B]? = _ from hb] at ho
    cases ho
    cases hc
   ·exact hB h5
  exact ⟨h1.kept hg (ne _ _ _ h1 (by omega)),h3,Below.grown h4 hg (by have:=h1.lt; omega) (fun r e => by rcases hr r e with ⟨h5,_⟩ | h5 <;> omega)⟩
 case assign =>
  intro l x W K hK
  gi_wp2
  exact hK
 case body =>
  rintro l pre x W ⟨h1,h2,h3,h4,h6⟩ hlt
  have hP:=part_calls x
  have c1:=h1.cell
  have f1:=h1.frozen
  have c2:=h2.cell
  have f2:=h2.frozen
  have hw : IntKind.i64.wrap ((pre.length : Int) + 1) = ((pre ++ [x]).length : Int):=by
   rw [wrap_small _ (by omega) (by omega)]
   simp
  cases hb : partB x with
  | false =>
   rw [hb] at hP
   gi_wp2_with (refine ⟨trivial,?_⟩; gi_at_call 77; refine (CallsIn.inRound l (callsIn_wide.2 (hP _))).mono ?_; rintro e w1 ⟨rfl,hb1⟩; have g1:=boxed_of h1 (hb1.block _ h1.lt); have c3:=g1.cell; have f3:=g1.frozen)
   have hke : KeepsOthers W w1:=⟨hb1.size,fun k o hk _ => (hb1.block k (Array.getElem?_eq_some_iff.1 hk).1).trans hk⟩
   refine ⟨(hke.trans (KeepsOthers.setCell _ _ _)).from _,g1.set _,⟨x,by simp,hb⟩,?_⟩
   refine Below.setCell (p:=⟨w.heap.size,0,none⟩) ?_ (Nat.le_refl _) _
   exact h4.trans (hb1.mono h4.size)
  | true =>
   rw [hb] at hP
   gi_wp2_with (refine ⟨trivial,?_⟩; gi_at_call 77; refine (CallsIn.inRound l (callsIn_wide.2 (hP _))).mono ?_; rintro e w1 ⟨rfl,hb1⟩; have g1:=boxed_of h1 (hb1.block _ h1.lt); have g2:=boxed_of h2 (hb1.block _ h2.lt); have c3:=g2.cell; have f3:=g2.frozen)
   have hke : KeepsOthers W w1:=⟨hb1.size,fun k o hk _ => (hb1.block k (Array.getElem?_eq_some_iff.1 hk).1).trans hk⟩
   have hsz1:=hb1.size
   have far : ∀ k,k < w.heap.size + 5 → k ≠ w.heap.size + 1 → ∀ v,(w1.setCell ⟨w.heap.size + 1,0,none⟩ v).heap[k]? = W.heap[k]?:=fun k hk hne v =>
    ((grownBy_setCell' w1 (w.heap.size + 1) v).block k (by omega) (by simp; omega)).trans (hb1.block k (by omega))
   refine ⟨(hke.trans (KeepsOthers.setCell _ _ _)).from _,⟨far _ (by omega) (by omega) _,far _ (by omega) (by omega) _,far _ (by omega) (by omega) _⟩,g1.other (by omega) _,?_,?_,?_,?_⟩
   ·have e : ((pre ++ [x]).length : Int) = (pre.length : Int) + 1:=by simp
    rw [e]
    exact g2.set _
   ·intro y hy
    rcases List.mem_append.1 hy with hy | hy
    ·exact h3 y hy
    ·rw [List.mem_singleton.1 hy]; exact hb
   ·refine Below.setCell (p:=⟨w.heap.size + 1,0,none⟩) ?_ (Nat.le_succ _) _
    exact h4.trans (hb1.mono h4.size)
   ·rw [World.size_setCell]
    omega
 case done =>
  rintro D xs W hD hS ⟨h1,h2,h3,h4,h6⟩ hdf
  have c1:=h1.cell
  have f1:=h1.frozen
  have c2:=h2.cell
  have hr : rightB s = decide ((xs.length : Int) ≤ 8):=by
   have e : xs.length = (pieces 47 s.data.toList).length:=by rw [← hS]; simp [lsS]
   have ha : (pieces 47 s.data.toList).all (fun y => partB ⟨y.toArray⟩) = true:=by
    rw [← hS,List.all_eq_true]
    intro y hy
    obtain ⟨z,hz,rfl⟩:=List.mem_map.1 hy
    exact h3 z hz
   rw [rightB,ha,e,Bool.true_and]
   exact decide_eq_decide.2 (by omega)
  gi_wp2
  have hdf2 : (W.setCell ⟨w.heap.size,0,none⟩ (.bool (decide ((xs.length : Int) ≤ 8)))).heap[D]? = some (.deferred (some [])):=((grownBy_setCell' W w.heap.size _).block D (Array.getElem?_eq_some_iff.1 hdf).1 (by simp; omega)).trans hdf
  refine ⟨by simp,.inl ⟨_,_,rfl,run_takeDeferred hdf2,?_⟩⟩
  have bE : Boxed ((W.setCell ⟨w.heap.size,0,none⟩ (.bool (decide ((xs.length : Int) ≤ 8)))).putObj D (.deferred none)) w.heap.size 4 (.bool (decide ((xs.length : Int) ≤ 8))):=(World.putObj_heap_other (by omega)).trans (h1.set _)
  have cE:=bE.cell
  refine ⟨.bool (decide ((xs.length : Int) ≤ 8)),by simp [results,Tryd.results46,go_sem,cE],by rw [hr],?_⟩
  refine Below.trans ?_ (belowK_b (w:=w) (Nat.le_refl _) _ D _ _ (by omega) hdf2 rfl rfl)
  exact Below.setCell (p:=⟨w.heap.size,0,none⟩) h4 (Nat.le_refl _) _
 case stop =>
  rintro D pre W hD hSp ⟨h1,⟨y,hy,hyp⟩,h4⟩ hdf
  have c1:=h1.cell
  have hr : rightB s = false:=by
   have ha : (pieces 47 s.data.toList).all (fun y => partB ⟨y.toArray⟩) = false:=by
    rw [List.all_eq_false]
    refine ⟨y.data.toList,hSp.subset (List.mem_map.2 ⟨y,hy,rfl⟩),?_⟩
    have : (⟨y.data.toList.toArray⟩ : ByteArray) = y:=rfl
    rw [this,hyp]
    simp
   rw [rightB,ha,Bool.false_and]
  gi_wp2
  refine ⟨by simp,.inl ⟨_,_,rfl,run_takeDeferred hdf,?_⟩⟩
  have bE : Boxed (W.putObj D (.deferred none)) w.heap.size 4 (.bool false):=(World.putObj_heap_other (by omega)).trans h1
  have cE:=bE.cell
  refine ⟨.bool false,by simp [results,Tryd.results46,go_sem,cE],by rw [hr],?_⟩
  exact Below.trans h4 (belowK_b (w:=w) (Nat.le_refl _) _ D _ _ (by omega) hdf rfl rfl)
end Go.Proofs.YthhohbidjhcjeaaDoor.H

namespace Go.Proofs.YthhohbidjhcjeaaDoor.H
open Go.RowKit Go.Shelf Go.Proofs.YthhohbidjhcjeaaDoorW.PrintWords Go.Proofs.YthhohbidjhcjeaaDoorW.PrintLast Go.Proofs.YthhohbidjhcjeaaDoorW.PrintMore

/-- Does a text hold the end of a line? -/
def hasNL (s : ByteArray) : Bool:=decide (0 ≤ Lib.indexByte s.data.toList 10)
def linesB (l : List ByteArray) : Bool:=!(l.any hasNL)
theorem lit_calls (s : ByteArray) (w : World) : Calls Tryd.prog 81 #[.string s] w fun e w' => e = .returned (.bool (hasNL s)) ∧ w' = w:=by
 have hC:=Tryd.strings_Contains_one s 10 w
 have e0 : decide (0 ≤ Lib.indexByte s.data.toList 10) = hasNL s:=rfl
 rw [e0] at hC
 obtain ⟨b,hb⟩ : ∃ b,hasNL s = b:=⟨_,rfl⟩
 rw [hb] at hC ⊢
 clear e0 hb
 go_enter Tryd.func81,Tryd.ntmps81
 go_wp2_with (go_at_call 82; refine hC.mono ?_; rintro e w' ⟨rfl,rfl⟩)
 go_ret
 exact ⟨rfl,rfl⟩
set_option maxHeartbeats 1000000 in
theorem index_calls (A : Option Addr) (c : Nat) (l : List ByteArray) (w : World) (h : Kd.C Kd.string w A l.length l) :
  Calls Tryd.prog 104 #[.slice A l.length c,.func (.func 81) #[] #[]] w fun e w' => (∃ i : Int,e = .returned (.int .i64 i) ∧ decide (0 ≤ i) = l.any hasNL) ∧ w' = w:=by
 have hmax:=Kd.C_max h
 have e81 : ∀ args w,(callFunc 81 args).run Tryd.prog w = .ok (.enter 81 args) w:=enters_of Tryd.func81 (by kernel_rfl) rfl
 go_enter Tryd.func104,Tryd.ntmps104
 go_wp2
 go_loopg [8] l.length (fun gf v8 wx => ∃ j : Nat,v8 = .int .i64 (j : Int) ∧ wx = w ∧ j + gf = l.length ∧ (l.take j).any hasNL = false)
 case atStart => exact ⟨0,rfl,rfl,by omega,by simp⟩
 case round =>
  obtain ⟨j,rfl,rfl,hj,hn⟩:=hrel
  by_cases hlt : j < l.length
  ·obtain ⟨g',rfl⟩ : ∃ g',gk = g' + 1:=⟨gk - 1,by omega⟩
   obtain ⟨ad,rfl,hc⟩:=Kd.at_string h (j : Int) (by omega) (by omega)
   rw [Int.toNat_natCast] at hc
   have hx : rdOf ByteArray.empty l (j : Int) = l[j]:=by
    rw [rdOf,Int.toNat_natCast,List.getD_eq_getElem?_getD,List.getElem?_eq_getElem hlt,Option.getD_some]
   rw [hx] at hc
   have ht : (l.take (j + 1)).any hasNL = hasNL l[j]:=by
    rw [List.take_succ_eq_append_getElem hlt,List.any_append,hn]
    simp
   obtain ⟨x,hxx⟩ : ∃ x,l[j] = x:=⟨_,rfl⟩
   rw [hxx] at hc ht
   have hL:=lit_calls x
   cases hb : hasNL x with
   | true =>
    rw [hb] at hL
    go_wp2_with (go_at_fn 81; refine (hL _).mono ?_; rintro e w' ⟨rfl,hw⟩; rw [hw])
    go_ret
    refine ⟨⟨_,rfl,?_⟩,rfl⟩
    have : l.any hasNL = true:=List.any_eq_true.2 ⟨l[j],List.getElem_mem hlt,by rw [hxx,hb]⟩
    rw [this]
    exact decide_eq_true (by omega)
   | false =>
    rw [hb] at hL
    go_wp2_with (go_at_fn 81; refine (hL _).mono ?_; rintro e w' ⟨rfl,hw⟩; rw [hw])
    go_roundg g'
    case measure => omega
    case rel => exact ⟨j + 1,rfl,rfl,by omega,by rw [ht,hb]⟩
  ·have hjl : j = l.length:=by omega
   subst hjl
   go_wp2
   go_ret
   refine ⟨⟨_,rfl,?_⟩,rfl⟩
   rw [List.take_length] at hn
   rw [hn]
   rfl
theorem lines_calls (A : Option Addr) (c : Nat) (l : List ByteArray) (w : World) (h : Kd.C Kd.string w A l.length l) :
  Calls Tryd.prog 49 #[.slice A l.length c] w fun e w' => e = .returned (.bool (linesB l)) ∧ w' = w:=by
 have hC : Calls Tryd.prog 80 #[.slice A l.length c,.func (.func 81) #[] #[]] w fun e w' => e = .returned (.bool (l.any hasNL)) ∧ w' = w:=by
  have hI:=index_calls A c l w h
  obtain ⟨b,hb⟩ : ∃ b,l.any hasNL = b:=⟨_,rfl⟩
  rw [hb] at hI ⊢
  clear h hb
  go_enter Tryd.func80,Tryd.ntmps80
  go_wp2_with (go_at_call 104; refine hI.mono ?_; rintro e w' ⟨⟨i,rfl,hi⟩,rfl⟩)
  all_goals go_ret
  all_goals exact ⟨by simp_all,rfl⟩
 unfold linesB
 obtain ⟨b,hb⟩ : ∃ b,l.any hasNL = b:=⟨_,rfl⟩
 rw [hb] at hC ⊢
 clear h hb
 go_enter Tryd.func49,Tryd.ntmps49
 go_wp2_with (go_at_call 80; refine hC.mono ?_; rintro e w' ⟨rfl,rfl⟩)
 go_ret
 exact ⟨rfl,rfl⟩
end Go.Proofs.YthhohbidjhcjeaaDoor.H
namespace Go.Proofs.YthhohbidjhcjeaaDoor.Q
open Go.RowKit Go.Proofs.YthhohbidjhcjeaaDoorW.PrintWords Go.Proofs.YthhohbidjhcjeaaDoorW.PrintLast Go.Proofs.YthhohbidjhcjeaaDoorW.PrintMore Go.Proofs.YthhohbidjhcjeaaDoor.H
/-! ### in the printed form -/
def path_Right.f (a0 : ByteArray) : Option Bool:=if a0.size ≤ 140737488355328 then some (rightB a0) else none
theorem path_Right.calls (a0 : ByteArray) (r : Bool) (w : World) (h : path_Right.f a0 = some r) : Calls Tryd.prog 46 #[.string a0] w fun e w' => e = .returned (.bool r) ∧ Below w.heap.size w w':=by
 unfold path_Right.f at h
 split at h
 ·rename_i hl
  obtain rfl:=Option.some.inj h
  exact callsIn_wide.1 (right_in a0 w hl)
 ·cases h
def lines_Right.f (l0 : List ByteArray) : Option Bool:=some (linesB l0)
theorem lines_Right.calls (A0 : Option Addr) (c0 : Nat) (l0 : List ByteArray) (r : Bool) (w : World) (hr0 : Kd.C Kd.string w A0 l0.length l0) (_hc0 : l0.length ≤ c0) (h : lines_Right.f l0 = some r) :
  Calls Tryd.prog 49 #[.slice A0 l0.length c0] w fun e w' => e = .returned (.bool r) ∧ Drawn0 w w':=by
 obtain rfl:=Option.some.inj h
 refine (lines_calls A0 c0 l0 w hr0).mono ?_
 rintro e w' ⟨rfl,rfl⟩
 exact ⟨rfl,Drawn0.refl _⟩
end Go.Proofs.YthhohbidjhcjeaaDoor.Q
