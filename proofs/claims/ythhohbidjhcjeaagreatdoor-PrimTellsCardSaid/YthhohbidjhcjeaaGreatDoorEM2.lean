/- Contracts of strings.IndexRune and ContainsRune on the letters of paths, at every rune, and of path.part's predicate. Contracts of path.part and path.Right. The contract of the iterator of strings.SplitSeq over a sign: it hands the pieces between the signs, one behind the other. The contract of path.Right: whatever text it is given, it tells whether that is a path. The contracts of path.Right and lines.Right, in the form that printed callers ask. -/
import Derived.Test.YthhohbidjhcjeaaGreatDoorEM1
import Derived.Laws.Runes
import Derived.Laws.RangeAny
import Derived.Shelf.Strings.FuncGrows
import Derived.Lib.OthersKept
import Derived.Deep.LoopGhost
import Derived.WalkKit
import Derived.WalkMore
import Derived.Tactics
import Derived.KernelRfl
import Derived.Lib.IndexLaws
import Derived.Shelf.Abstract
import Derived.Shelf.RegionOpen
import Derived.OwnWalkIn
import Derived.TacticsInMore
import Derived.LoopNIn
import Derived.LoopIn
import Derived.Outline
import Derived.Lib.Hide
import Derived.RangeFuncCalls
import Derived.RangeFuncLeaves
import Derived.Test.YthhohbidjhcjeaaGreatDoorEWd
import Derived.Deep.RegionWith
import Derived.Laws.Strings
import Derived.Maps.OwnIn
namespace Go.Proofs.YthhohbidjhcjeaaGreatDoor.H
open Go.RowKit Go.Lib Go.Shelf
def letters : ByteArray:=⟨#[97,98,99,100,101,102,103,104,105,106,107,108,109,110,111,112,113,114,115,116,117,118,119,120,121,122,48,49,50,51,52,53,54,55,56,57,46,95,45]⟩
theorem letters_low : ∀ b ∈ letters.data.toList,b.toNat < 128:=by decide +kernel
theorem letters_size : letters.size = 39:=by decide +kernel
theorem letters_decode : ∀ p,p < 39 → (Utf8.decode letters p).1 < 128 ∧ (Utf8.decode letters p).2 = 1:=by decide +kernel
theorem indexByte_none (l : List UInt8) (c : UInt8) (h : ∀ b ∈ l,b.toNat < 128) (hc : 128 ≤ c.toNat) : Lib.indexByte l c = -1:=by
 induction l with
 | nil => rfl
 | cons b l ih =>
  have hb : (b == c) = false:=by
   have h1:=h b (by simp)
   simp only [beq_eq_false_iff_ne,ne_eq]
   rintro rfl
   omega
  rw [Lib.indexByte,hb,ih (fun x hx => h x (by simp [hx]))]
  rfl

set_option maxHeartbeats 2000000 in
set_option maxRecDepth 1000000 in
theorem indexRune_bad (r : Int) (h1 : 128 ≤ r) (hb : Lib.validRune r = false) (w : World) :
  Calls Tryz.prog 177 #[.string letters,.int .i32 r] w fun e w' => e = .returned (.int .i64 (-1)) ∧ Below w.heap.size w w':=by
 have h2 : r ≠ 65533:=by rintro rfl; revert hb; decide
 go_enter Tryz.func177,Tryz.ntmps177
 go_wp2_with (go_at_call 193; refine (Tryz.utf8_ValidRune _ _).mono ?_; rintro e w' ⟨rfl,rfl⟩; rw [hb])
 go_ret
 exact ⟨rfl,Below.refl _ _⟩
set_option maxHeartbeats 2000000 in
set_option maxRecDepth 1000000 in
theorem indexRune_error (w : World) :
  Calls Tryz.prog 177 #[.string letters,.int .i32 65533] w fun e w' => e = .returned (.int .i64 (-1)) ∧ Below w.heap.size w w':=by
 obtain ⟨s,hs⟩ : ∃ s,letters = s:=⟨_,rfl⟩
 have hsz : s.size = 39:=by rw [← hs]; exact letters_size
 have hd:=letters_decode
 rw [hs] at hd
 rw [hs]
 clear hs
 go_enter Tryz.func177,Tryz.ntmps177
 go_wp2
 go_loopg [] s.size (fun gf wx => ∃ pos : Nat,wx.heap[w.heap.size]? = some (.stringIter s pos) ∧ Below w.heap.size w wx ∧ s.size ≤ pos + gf)
 case atStart => exact ⟨0,World.iter_heap w s 0,(Below.refl _ w).alloc (Nat.le_refl _) _,by omega⟩
 case round =>
  obtain ⟨pos,hit,hbw,hfu⟩:=hrel
  by_cases hps : pos < s.size
  ·obtain ⟨g',rfl⟩ : ∃ g',gk = g' + 1:=⟨gk - 1,by omega⟩
   have hnx : ∀ ty,(Instr.next (.pointer (some ⟨w.heap.size,0,none⟩)) true ty).run Tryz.prog wr = _:=fun ty => Lib.run_next_any_at wr w.heap.size s pos ty hit hps
   obtain ⟨hd1,hd2⟩:=hd pos (by omega)
   obtain ⟨R,hR⟩ : ∃ R,(Utf8.decode s pos).1 = R:=⟨_,rfl⟩
   rw [hR] at hnx hd1
   rw [hd2] at hnx
   have hit2:=Lib.iterAt_heap wr w.heap.size s pos (pos + 1) hit
   have hbw2:=Lib.below_iterAt hbw (k:=w.heap.size) (Nat.le_refl _) s (pos + 1)
   obtain ⟨W,hWd⟩ : ∃ W,wr.iterAt w.heap.size s (pos + 1) = W:=⟨_,rfl⟩
   rw [hWd] at hnx hit2 hbw2
   have hne : ((R : Int) == 65533) = false:=by simp; omega
   go_wp2
   go_roundg g'
   case measure => omega
   case rel => exact ⟨pos + 1,hit2,hbw2,by omega⟩
  ·have hnx : ∀ ty,(Instr.next (.pointer (some ⟨w.heap.size,0,none⟩)) true ty).run Tryz.prog wr = _:=fun ty => Lib.run_next_end_at wr w.heap.size s pos ty hit hps
   go_wp2
   go_ret
   exact ⟨rfl,hbw⟩

set_option maxHeartbeats 2000000 in
set_option maxRecDepth 1000000 in
theorem indexRune_valid (r : Int) (h1 : 128 ≤ r) (h2 : r ≠ 65533) (hv : Lib.validRune r = true) (w : World) :
  Calls Tryz.prog 177 #[.string letters,.int .i32 r] w fun e w' => e = .returned (.int .i64 (-1)) ∧ Below w.heap.size w w':=by
 obtain ⟨s,hs⟩ : ∃ s,letters = s:=⟨_,rfl⟩
 have hsz : s.size = 39:=by rw [← hs]; exact letters_size
 have hlow:=letters_low
 rw [hs] at hlow
 rw [hs]
 clear hs
 obtain ⟨e2,e4,elast⟩:=encode_facts r (by rw [validRune_eq]; exact hv) h1
 obtain ⟨E,hE⟩ : ∃ E,Utf8.encode r = E:=⟨_,rfl⟩
 rw [hE] at e2 e4 elast
 obtain ⟨n,hn⟩ : ∃ n,E.size = n + 1:=⟨E.size - 1,by omega⟩
 have hn1 : 1 ≤ n:=by omega
 have hn3 : n ≤ 3:=by omega
 have hlt : n < E.size:=by omega
 have hla : 128 ≤ (E[n]'hlt).toNat:=by
  have h:=elast (by omega)
  have e : E.size - 1 = n:=by omega
  simpa only [e] using h
 clear elast e2 e4
 obtain ⟨c,hc⟩ : ∃ c,E[n]'hlt = c:=⟨_,rfl⟩
 rw [hc] at hla
 have hsn : n < s.size:=by omega
 obtain ⟨b,hb⟩ : ∃ b,s[n]'hsn = b:=⟨_,rfl⟩
 have hbl : b.toNat < 128:=by
  rw [← hb]
  exact hlow _ (Array.getElem_mem_toList (xs:=s.data) hsn)
 have ix1 : ∀ W,(Instr.index 9 (.string s) (.int .i64 (n : Int))).run Tryz.prog W = .ok (.int .u8 b.toNat) W:=fun W => by
  rw [run_index_string W 9 s .i64 _ Tryz.underlying9,dif_pos ⟨by omega,by omega⟩]
  simp only [Int.toNat_natCast,hb]
 have ix2 : ∀ W,(Instr.index 9 (.string E) (.int .i64 (n : Int))).run Tryz.prog W = .ok (.int .u8 c.toNat) W:=fun W => by
  rw [run_index_string W 9 E .i64 _ Tryz.underlying9,dif_pos ⟨by omega,by omega⟩]
  simp only [Int.toNat_natCast,hc]
 have cIB : ∀ (a e : Nat) (W : World),Calls Tryz.prog 192 #[.string (s.extract a e),.int .u8 (c.toNat : Int)] W fun e w' => e = .returned (.int .i64 (-1)) ∧ w' = W:=fun a e W => by
  have h:=Tryz.strings_IndexByte (s.extract a e) (c.toNat : Int) W
  rw [indexByte_none _ _ (fun x hx => hlow x (mem_extract hx)) (by simpa using hla)] at h
  exact h
 have hbc : (((b.toNat : Int)) == (c.toNat : Int)) = false:=by simp only [beq_eq_false_iff_ne,ne_eq]; omega
 have hbc' : (((b.toNat : Int)) != (c.toNat : Int)) = true:=by simp only [bne_iff_ne,ne_eq]; omega
 have hwr : IntKind.i64.wrap ((n : Int) + 1) = (n : Int) + 1:=wrap_small _ (by omega) (by omega)
 have hsl : ∀ W,(Instr.slice 9 (.string s) (some (.int .i64 (IntKind.i64.wrap ((n : Int) + 1)))) none none).run Tryz.prog W = .ok (.string (s.extract (n + 1) s.size)) W:=fun W => by
  rw [hwr,run_slice_string_from_if W 9 s .i64 _ Tryz.underlying9,if_pos ⟨by omega,by omega⟩]
  rfl
 clear hwr
 have hlen : (n : Int) < 39:=by omega
 have hs21 : (Tryz.prog.underlying 21).isSome = true:=by rw [Tryz.underlying21]; rfl
 have hcv : ∀ W,(convert 21 9 (.int .i32 r)).run Tryz.prog W = .ok (.string E) W:=fun W => by rw [run_convert_int_string W 21 9 .i32 r hs21 Tryz.underlying9,hE]
 go_enter Tryz.func177,Tryz.ntmps177
 go_wp2_with (go_at_call 193; refine (Tryz.utf8_ValidRune _ _).mono ?_; rintro e w1 ⟨rfl,hw1⟩; rw [hv,hw1])
 go_step3
 go_wp2
 go_loopg [9] 1 (fun gf v9 wx => v9 = .int .i64 (n : Int) ∧ wx = w)
 case atStart => exact ⟨rfl,rfl⟩
 case round =>
  obtain ⟨rfl,rfl⟩:=hrel
  go_wp2
  go_step3
  go_wp2
  go_region
  all_goals go_wp2
  all_goals go_region_with (go_at_call 192; refine (cIB _ _ _).mono ?_; rintro e w2 ⟨rfl,hw2⟩; rw [hw2])
  all_goals go_wp2
  all_goals simp only [Exit.noGoto_ret,Exit.inBlock,Exit.then]
  all_goals go_ret
  all_goals exact ⟨rfl,by repeat (first | exact Below.refl _ _ | refine Below.drew ?_)⟩

def isLetter (r : Nat) : Bool:=decide (r < 128) && decide (0 ≤ Lib.indexByte letters.data.toList r.toUInt8)
theorem containsRune (r : Nat) (hr : r ≤ 1114111) (w : World) :
  Calls Tryz.prog 147 #[.string letters,.int .i32 (r : Int)] w fun e w' => e = .returned (.bool (isLetter r)) ∧ Below w.heap.size w w':=by
 by_cases h : r < 128
 ·refine (Tryz.strings_ContainsRune_ascii letters (r : Int) w (by omega) (by omega)).mono ?_
  rintro e w' ⟨rfl,rfl⟩
  refine ⟨?_,Below.refl _ _⟩
  simp [isLetter,h]
 ·have hI : Calls Tryz.prog 177 #[.string letters,.int .i32 (r : Int)] w fun e w' => e = .returned (.int .i64 (-1)) ∧ Below w.heap.size w w':=by
   by_cases h2 : (r : Int) = 65533
   ·rw [h2]; exact indexRune_error w
   ·cases hv : Lib.validRune (r : Int) with
    | true => exact indexRune_valid _ (by omega) h2 hv w
    | false => exact indexRune_bad _ (by omega) hv w
  have e0 : isLetter r = false:=by simp [isLetter,h]
  rw [e0]
  go_enter Tryz.func147,Tryz.ntmps147
  go_wp2_with (go_at_call 177; refine hI.mono ?_; rintro e w' ⟨rfl,hb⟩)
  go_ret
  exact ⟨rfl,hb⟩
theorem strange_grows (w : World) : PredGrows Tryz.prog 146 #[] (fun r => !isLetter r) w:=by
 intro W x hx hb
 show Calls Tryz.prog 146 #[.int .i32 (x : Int)] W _
 have hC:=containsRune x hx W
 obtain ⟨s,hs⟩ : ∃ s,letters = s:=⟨_,rfl⟩
 rw [hs] at hC
 unfold letters at hs
 go_enter Tryz.func146,Tryz.ntmps146
 rw [hs]
 go_wp2_with (go_at_call 147; refine hC.mono ?_; rintro e w' ⟨rfl,hb⟩)
 go_ret
 exact ⟨rfl,hb⟩
def strangeB (s : ByteArray) : Bool:=decide (0 ≤ Lib.idxFunc (fun r => !isLetter r) true s)
def partB (s : ByteArray) : Bool:=if s.toList = [] then false else if s.size ≤ 16 then (if s.toList = [46] then false else if s.toList = [46,46] then false else !strangeB s) else false
set_option maxHeartbeats 2000000 in
set_option maxRecDepth 1000000 in
theorem part_calls (s : ByteArray) (w : World) : Calls Tryz.prog 112 #[.string s] w fun e w' => e = .returned (.bool (partB s)) ∧ Below w.heap.size w w':=by
 have hC:=Tryz.strings_ContainsFunc_grows 146 #[] (enters_of Tryz.func146 (by kernel_rfl) rfl) _ s w (strange_grows w)
 have e0 : decide (0 ≤ Lib.idxFunc (fun r => !isLetter r) true s) = strangeB s:=rfl
 rw [e0] at hC
 obtain ⟨b,hb⟩ : ∃ b,strangeB s = b:=⟨_,rfl⟩
 unfold partB
 rw [hb] at hC ⊢
 clear e0 hb
 have hsz : ((s.size : Int) ≤ 16) ↔ s.size ≤ 16:=by omega
 go_enter Tryz.func112,Tryz.ntmps112
 go_wp2_with (go_at_call 145; refine hC.mono ?_; rintro e w' ⟨rfl,hb⟩)
 all_goals go_ret
 all_goals refine ⟨?_,hb⟩
 all_goals simp_all
open Go.RowKit Go.Shelf Go.Proofs.YthhohbidjhcjeaaGreatDoor.RB
attribute [local go_sem] Oper.semAt_some

def pieces (c : UInt8) : List UInt8 → List (List UInt8)
 | [] => [[]]
 | b :: l => if b = c then [] :: pieces c l else match pieces c l with
  | [] => [[b]]
  | p :: r => (b :: p) :: r
theorem pieces_ne (c : UInt8) : ∀ l,pieces c l ≠ []
 | [] => by simp [pieces]
 | b :: l => by
  unfold pieces
  split
  ·simp
  ·split <;> simp
theorem pieces_pos (c : UInt8) (l : List UInt8) : 1 ≤ (pieces c l).length:=by
 have:=pieces_ne c l
 cases h : pieces c l with
 | nil => exact absurd h this
 | cons p r => simp
theorem pieces_none (c : UInt8) : ∀ (l : List UInt8),Lib.indexByte l c = -1 → pieces c l = [l]
 | [],_ => rfl
 | b :: l,h => by
  have hb : ¬ b = c:=fun e => by
   subst e
   simp [Lib.indexByte] at h
  have hl : Lib.indexByte l c = -1:=by
   have hb' : (b == c) = false:=by simpa using hb
   have hg:=Lib.indexByte_ge l c
   rw [Lib.indexByte,hb'] at h
   by_cases e : Lib.indexByte l c = -1
   ·exact e
   ·have e' : (Lib.indexByte l c == -1) = false:=by simpa using e
    simp only [Bool.false_eq_true,if_false,e'] at h
    omega
  rw [pieces,if_neg hb,pieces_none c l hl]
theorem pieces_some (c : UInt8) : ∀ (l : List UInt8) (i : Nat),Lib.indexByte l c = (i : Int) → i < l.length ∧ pieces c l = l.take i :: pieces c (l.drop (i + 1))
 | [],i,h => by simp [Lib.indexByte] at h
 | b :: l,i,h => by
  by_cases hb : b = c
  ·subst hb
   simp only [Lib.indexByte,beq_self_eq_true,if_true] at h
   obtain rfl : i = 0:=by omega
   exact ⟨by simp,by simp [pieces]⟩
  ·have hb' : (b == c) = false:=by simpa using hb
   have hg:=Lib.indexByte_ge l c
   rw [Lib.indexByte,hb'] at h
   by_cases e : Lib.indexByte l c = -1
   ·simp [e] at h
   ·have e' : (Lib.indexByte l c == -1) = false:=by simpa using e
    simp only [Bool.false_eq_true,if_false,e'] at h
    obtain ⟨j,rfl⟩ : ∃ j,i = j + 1:=⟨i - 1,by omega⟩
    obtain ⟨h1,h2⟩:=pieces_some c l j (by omega)
    exact ⟨by simp; omega,by rw [pieces,if_neg hb,h2]; rfl⟩
theorem pieces_len (c : UInt8) : ∀ l,(pieces c l).length ≤ l.length + 1
 | [] => by simp [pieces]
 | b :: l => by
  have:=pieces_len c l
  unfold pieces
  split
  ·simpa using this
  ·split
   ·simp
   ·rename_i p r h
    rw [h] at this
    simp at this ⊢
    omega

def KpS (Bp Bs Bv : Nat) (W W' : World) : Prop:=W'.heap[Bp]? = W.heap[Bp]? ∧ W'.heap[Bs]? = W.heap[Bs]? ∧ W'.heap[Bv]? = W.heap[Bv]?
theorem boxed_of {W W' : World} {B : Nat} {t : TypeId} {v : Value} (h : Boxed W B t v) (e : W'.heap[B]? = W.heap[B]?) : Boxed W' B t v:=e.trans h
def lsS (ys : List ByteArray) : List (List UInt8):=ys.map (fun y => y.data.toList)

def sizeAt (B : Nat) (w : World) : Nat:=match w.cell? ⟨B,0,none⟩ with
 | some (.string s) => s.size
 | _ => 0
theorem sizeAt_of {B : Nat} {w : World} {s : ByteArray} (h : Boxed w B 9 (.string s)) : sizeAt B w = s.size:=by rw [sizeAt,h.cell]
set_option maxRecDepth 100000 in
set_option maxHeartbeats 2000000 in
theorem split_stops (n : Nat) (hn : 1 ≤ n) (Bp Bs Bv : Nat) (h1 : Bp ≠ Bs) (h2 : Bv ≠ Bs) (c : UInt8) (s : ByteArray) (w : World) (hs : s.size ≤ 140737488355328)
  (bp : Boxed w Bp 9 (.string ⟨#[c]⟩)) (bs : Boxed w Bs 9 (.string s)) (bv : Boxed w Bv 3 (.int .i64 0)) :
  SeqZ Fence.wide n Tryz.prog 174 #[.pointer (some ⟨Bp,0,none⟩),.pointer (some ⟨Bs,0,none⟩),.pointer (some ⟨Bv,0,none⟩)] (fun y : ByteArray => #[.string y]) (KpS Bp Bs Bv) (fun r => r = Bs)
   (fun ys => lsS ys = pieces c s.data.toList) (fun pre => lsS pre <+: pieces c s.data.toList) (pieces c s.data.toList).length w:=by
 intro l J Jx W hW hJ hJx hY h0
 replace bp : Boxed W Bp 9 (.string ⟨#[c]⟩):=(hW.block _ bp.lt).trans bp
 replace bs : Boxed W Bs 9 (.string s):=(hW.block _ bs.lt).trans bs
 replace bv : Boxed W Bv 3 (.int .i64 0):=(hW.block _ bv.lt).trans bv
 clear hW
 show CallsIn Fence.wide n Tryz.prog 174 #[.func (.yield l) #[] #[],.pointer (some ⟨Bp,0,none⟩),.pointer (some ⟨Bs,0,none⟩),.pointer (some ⟨Bv,0,none⟩)] W _
 refine callsIn_of_wp Tryz.func174 rfl trivial ?_ rfl
 simp only [Tryz.ntmps174,List.size_toArray,List.length_cons,List.length_nil,Nat.reduceAdd,Nat.reduceSub,Array.replicate_succ,Array.replicate_zero,List.push_toArray,List.append_toArray,List.nil_append,List.cons_append]
 have cp:=bp.cell
 gi_wp2
 gi_loopw [] (fun wr => ∃ (cur : ByteArray) (pre : List ByteArray),J pre wr ∧ Boxed wr Bp 9 (.string ⟨#[c]⟩) ∧ Boxed wr Bs 9 (.string cur) ∧ Boxed wr Bv 3 (.int .i64 0) ∧ cur.size ≤ 140737488355328 ∧ lsS pre ++ pieces c cur.data.toList = pieces c s.data.toList)
  (fun wr => sizeAt Bs wr)
 case atStart => exact ⟨s,[],h0,bp,bs,bv,hs,rfl⟩
 case round =>
  clear bp bs bv cp h0 hs
  obtain ⟨cur,pre,hJ0,bp,bs,bv,hc,hpc⟩:=hrel
  have cp:=bp.cell
  have cs:=bs.cell
  have cv:=bv.cell
  have fs:=bs.frozen
  have hlen : pre.length + (pieces c cur.data.toList).length = (pieces c s.data.toList).length:=by rw [← hpc]; simp [lsS]
  have hI:=Tryz.strings_Index_one cur c
  by_cases hi : Lib.indexByte cur.data.toList c = -1
  ·rw [hi] at hI
   have hp1:=pieces_none c _ hi
   obtain ⟨fn,tmps,assign,body,hy,hR⟩:=hY pre cur wr hJ0 (by rw [hp1] at hlen; simp at hlen; omega)
   have HPC:=Lib.hid hpc
   clear hpc hlen
   gi_wp2_with (refine ⟨trivial,?_⟩; gi_at_call 149; refine (callsIn_wide.2 (hI _)).mono ?_; rintro e w1 ⟨rfl,hw1⟩; rw [hw1])
   refine hR.mono ?_
   rintro e W3 (⟨rfl,hJ3,hk3⟩ | ⟨rfl,hJx3⟩)
   ·gi_wp2
    go_end0
    exact ⟨⟨_,rfl⟩,.inl ⟨pre ++ [cur],by rw [← HPC.out,hp1]; simp [lsS],hJ3⟩⟩
   ·gi_wp2
    go_end0
    exact ⟨⟨_,rfl⟩,.inr ⟨pre ++ [cur],by rw [← HPC.out,hp1]; simp [lsS],hJx3⟩⟩
  ·obtain ⟨i,hi'⟩ : ∃ i : Nat,Lib.indexByte cur.data.toList c = (i : Int):=⟨(Lib.indexByte cur.data.toList c).toNat,by have:=Lib.indexByte_ge cur.data.toList c; omega⟩
   clear hi
   rw [hi'] at hI
   obtain ⟨hil,hp1⟩:=pieces_some c _ i hi'
   clear hi'
   have hil' : i < cur.size:=by rw [Array.length_toList] at hil; exact hil
   clear hil
   have t1 : (cur.extract 0 i).data.toList = cur.data.toList.take i:=by simp
   have t2 : (cur.extract (i + 1) cur.size).data.toList = cur.data.toList.drop (i + 1):=by
    simp only [ByteArray.data_extract,Array.toList_extract]
    exact List.take_of_length_le (by simp)
   rw [← t1,← t2] at hp1
   have tz : (cur.extract (i + 1) cur.size).size = cur.size - (i + 1):=by simp
   clear t1 t2
   obtain ⟨fn,tmps,assign,body,hy,hR⟩:=hY pre (cur.extract 0 i) wr hJ0 (by
    rw [hp1] at hlen
    have:=pieces_pos c (cur.extract (i + 1) cur.size).data.toList
    simp only [List.length_cons] at hlen
    omega)
   have hw0 : IntKind.i64.wrap (i : Int) = (i : Int):=wrap_small _ (by omega) (by omega)
   have hw1 : IntKind.i64.wrap ((i : Int) + 1) = (i : Int) + 1:=wrap_small _ (by omega) (by omega)
   have sl1 : ∀ W,(Instr.slice 9 (.string cur) none (some (.int .i64 (IntKind.i64.wrap (i : Int)))) none).run Tryz.prog W = .ok (.string (cur.extract 0 i)) W:=fun W => by
    rw [hw0,run_slice_string_to_if W 9 cur .i64 _ Tryz.underlying9,if_pos ⟨by omega,by omega⟩,Int.toNat_natCast]
   have sl2 : ∀ W,(Instr.slice 9 (.string cur) (some (.int .i64 (IntKind.i64.wrap ((i : Int) + 1)))) none none).run Tryz.prog W = .ok (.string (cur.extract (i + 1) cur.size)) W:=fun W => by
    rw [hw1,run_slice_string_from_if W 9 cur .i64 _ Tryz.underlying9,if_pos ⟨by omega,by omega⟩]
    rfl
   clear hw0 hw1
   have HPC:=Lib.hid hpc
   have HP1:=Lib.hid hp1
   clear hpc hlen hp1
   gi_wp2_with (refine ⟨trivial,?_⟩; gi_at_call 149; refine (callsIn_wide.2 (hI _)).mono ?_; rintro e w1 ⟨rfl,hw1⟩; rw [hw1])
   refine hR.mono ?_
   rintro e W3 (⟨rfl,hJ3,hk3⟩ | ⟨rfl,hJx3⟩)
   ·have bp3:=boxed_of bp hk3.1
    have bs3:=boxed_of bs hk3.2.1
    have bv3:=boxed_of bv hk3.2.2
    have cp3:=bp3.cell
    have cs3:=bs3.cell
    have fs3:=bs3.frozen
    gi_wp2
    go_roundw
    case rel => exact ⟨cur.extract (i + 1) cur.size,pre ++ [cur.extract 0 i],hJ _ _ _ _ hJ3 (grownBy_setCell' _ _ _) (fun r e => .inr (Option.some.inj e).symm),bp3.other h1 _,bs3.set _,bv3.other h2 _,by omega,by rw [← HPC.out,HP1.out]; simp [lsS]⟩
    case measure => rw [sizeAt_of (bs3.set _),sizeAt_of bs]; omega
   ·gi_wp2
    refine bodyPost_ret (results_none rfl _ _ _) rfl ?_
    exact ⟨⟨_,rfl⟩,.inr ⟨pre ++ [cur.extract 0 i],by rw [← HPC.out,HP1.out]; simp [lsS],hJx3⟩⟩
end Go.Proofs.YthhohbidjhcjeaaGreatDoor.H
namespace Go.Proofs.YthhohbidjhcjeaaGreatDoor.H
open Go.RowKit Go.Shelf Go.Proofs.YthhohbidjhcjeaaGreatDoor.RB
attribute [local go_sem] Oper.semAt_some

def rightB (s : ByteArray) : Bool:=(pieces 47 s.data.toList).all (fun y => partB ⟨y.toArray⟩) && decide ((pieces 47 s.data.toList).length ≤ 8)
theorem splitSeq1_in (n : Nat) (s sep : ByteArray) (w : World) :
  CallsIn Fence.wide n Tryz.prog 144 #[.string s,.string sep,.int .i64 0] w fun e w' => e = .returned (.func (.func 174) #[] #[.pointer (some ⟨w.heap.size + 1,0,none⟩),.pointer (some ⟨w.heap.size,0,none⟩),.pointer (some ⟨w.heap.size + 2,0,none⟩)]) ∧
   w' = ((w.alloc (.cells #[.string s] 9)).alloc (.cells #[.string sep] 9)).alloc (.cells #[.int .i64 0] 3):=by
 refine callsIn_of_wp Tryz.func144 rfl trivial ?_ rfl
 simp only [Tryz.ntmps144,List.size_toArray,List.length_cons,List.length_nil,Nat.reduceAdd,Nat.reduceSub,Array.replicate_succ,Array.replicate_zero,List.push_toArray,List.append_toArray,List.nil_append,List.cons_append]
 gi_wp2
 go_ret
 exact ⟨rfl,rfl⟩
theorem splitSeq_in (n : Nat) (s sep : ByteArray) (w : World) :
  CallsIn Fence.wide n Tryz.prog 111 #[.string s,.string sep] w fun e w' => e = .returned (.func (.func 174) #[] #[.pointer (some ⟨w.heap.size + 1,0,none⟩),.pointer (some ⟨w.heap.size,0,none⟩),.pointer (some ⟨w.heap.size + 2,0,none⟩)]) ∧
   w' = ((w.alloc (.cells #[.string s] 9)).alloc (.cells #[.string sep] 9)).alloc (.cells #[.int .i64 0] 3):=by
 refine callsIn_of_wp Tryz.func111 rfl trivial ?_ rfl
 simp only [Tryz.ntmps111,List.size_toArray,List.length_cons,List.length_nil,Nat.reduceAdd,Nat.reduceSub,Array.replicate_succ,Array.replicate_zero,List.push_toArray,List.append_toArray,List.nil_append,List.cons_append]
 gi_wp2_with (refine ⟨trivial,(by intro h; cases h),?_⟩; gi_at_call 144; refine (splitSeq1_in _ _ _ _).mono ?_; rintro e w1 ⟨rfl,rfl⟩)
 go_ret
 exact ⟨rfl,rfl⟩

set_option maxRecDepth 100000 in
set_option maxHeartbeats 2000000 in
theorem right_in (s : ByteArray) (w : World) (hs : s.size ≤ 140737488355328) :
  CallsIn Fence.wide 6 Tryz.prog 66 #[.string s] w fun e w' => e = .returned (.bool (rightB s)) ∧ Below w.heap.size w w':=by
 refine callsIn_of_wp_marks Tryz.func66 rfl trivial ?_ rfl
 simp only [Tryz.ntmps66,List.size_toArray,List.length_cons,List.length_nil,Nat.reduceAdd,Nat.reduceSub,Array.replicate_succ,Array.replicate_zero,List.push_toArray,List.append_toArray,List.nil_append,List.cons_append]
 gi_wp2_with (refine ⟨trivial,?_⟩; gi_at_call 111; refine (splitSeq_in _ _ _ _).mono ?_; rintro e w1 ⟨rfl,rfl⟩)
 have bR:=(((((Boxed.new w 4 (.bool false)).alloc (.cells #[.int .i64 0] 3)).alloc (.cells #[.string s] 9)).alloc (.cells #[.string ⟨#[47]⟩] 9)).alloc (.cells #[.int .i64 0] 3))
 have bN:=((((Boxed.new (w.alloc (.cells #[.bool false] 4)) 3 (.int .i64 0)).alloc (.cells #[.string s] 9)).alloc (.cells #[.string ⟨#[47]⟩] 9)).alloc (.cells #[.int .i64 0] 3))
 have bs:=((Boxed.new ((w.alloc (.cells #[.bool false] 4)).alloc (.cells #[.int .i64 0] 3)) 9 (.string s)).alloc (.cells #[.string ⟨#[47]⟩] 9)).alloc (.cells #[.int .i64 0] 3)
 have bp:=(Boxed.new (((w.alloc (.cells #[.bool false] 4)).alloc (.cells #[.int .i64 0] 3)).alloc (.cells #[.string s] 9)) 9 (.string ⟨#[47]⟩)).alloc (.cells #[.int .i64 0] 3)
 have bv:=Boxed.new ((((w.alloc (.cells #[.bool false] 4)).alloc (.cells #[.int .i64 0] 3)).alloc (.cells #[.string s] 9)).alloc (.cells #[.string ⟨#[47]⟩] 9)) 3 (.int .i64 0)
 simp only [World.size_alloc] at bN bs bp bv
 have hB0 : Below w.heap.size w (((((w.alloc (.cells #[.bool false] 4)).alloc (.cells #[.int .i64 0] 3)).alloc (.cells #[.string s] 9)).alloc (.cells #[.string ⟨#[47]⟩] 9)).alloc (.cells #[.int .i64 0] 3)) :=
  (((((Below.refl _ w).alloc (Nat.le_refl _) _).alloc (by simp) _).alloc (by simp; omega) _).alloc (by simp; omega) _).alloc (by simp; omega) _
 have hsz : (((((w.alloc (.cells #[.bool false] 4)).alloc (.cells #[.int .i64 0] 3)).alloc (.cells #[.string s] 9)).alloc (.cells #[.string ⟨#[47]⟩] 9)).alloc (.cells #[.int .i64 0] 3)).heap.size = w.heap.size + 5:=by simp
 obtain ⟨W0,hW0⟩ : ∃ W0,(((((w.alloc (.cells #[.bool false] 4)).alloc (.cells #[.int .i64 0] 3)).alloc (.cells #[.string s] 9)).alloc (.cells #[.string ⟨#[47]⟩] 9)).alloc (.cells #[.int .i64 0] 3)) = W0:=⟨_,rfl⟩
 rw [hW0] at bR bN bs bp bv hB0 hsz ⊢
 clear hW0
 have hpl:=pieces_len 47 s.data.toList
 have hsl : s.data.toList.length = s.size:=by rw [Array.length_toList]; rfl
 refine wpIn_rangeFunc_boxes (F:=Fence.wide) (α:=ByteArray) (Z:=fun r => r = w.heap.size + 1 + 1) rfl (by omega) (gf:=174)
  (lb:=#[.pointer (some ⟨w.heap.size + 1 + 1 + 1,0,none⟩),.pointer (some ⟨w.heap.size + 1 + 1,0,none⟩),.pointer (some ⟨w.heap.size + 1 + 1 + 2,0,none⟩)]) rfl trivial (enters_of Tryz.func174 (by kernel_rfl) rfl)
  (split_stops 5 (by omega) (w.heap.size + 1 + 1 + 1) (w.heap.size + 1 + 1) (w.heap.size + 1 + 1 + 2) (by omega) (by omega) 47 s W0 hs bp bs bv) (fun r e => by omega) ?kt ?kb (Below.refl _ _) (fun _ => rfl)
  (fun pre W => Boxed W w.heap.size 4 (.bool false) ∧ Boxed W (w.heap.size + 1) 3 (.int .i64 (pre.length : Int)) ∧ (∀ y ∈ pre,partB y = true) ∧ Below w.heap.size w W ∧ w.heap.size + 5 ≤ W.heap.size)
  (fun _ pre W => Boxed W w.heap.size 4 (.bool false) ∧ (∃ y ∈ pre,partB y = false) ∧ Below w.heap.size w W)
  ?own ?ownx ⟨bR,bN,by simp,hB0,by omega⟩
  (fun x => { tmps:=#[.string s,undef,.pointer (some ⟨w.heap.size,0,none⟩),.pointer (some ⟨w.heap.size + 1,0,none⟩),.string x,.string s,.func (.func 174) #[] #[.pointer (some ⟨w.heap.size + 1 + 1 + 1,0,none⟩),.pointer (some ⟨w.heap.size + 1 + 1,0,none⟩),.pointer (some ⟨w.heap.size + 1 + 1 + 2,0,none⟩)],.string x,undef,undef,undef,undef,undef,undef,undef],defers:=[] })
  ?assign ?body ?done ?stop
 case kt => exact fun h k => ⟨k.1.trans h.1,k.2.1.trans h.2.1,k.2.2.trans h.2.2⟩
 case kb => exact fun W l o o' hl _ _ _ => ⟨World.putObj_heap_other (by omega),World.putObj_heap_other (by omega),World.putObj_heap_other (by omega)⟩
 case own =>
  rintro pre X Y row ⟨h1,h2,h3,h4,h6⟩ hg hr
  have ne : ∀ B t v,Boxed X B t v → B ≠ w.heap.size + 1 + 1 → some B ≠ row:=fun B t v hb hB e => by
   rcases hr B e.symm with ⟨_,o,ho,hc⟩ | h5
   ·rw [show X.heap[B]? = _ from hb] at ho
    cases ho
    cases hc
   ·exact hB h5
  exact ⟨h1.kept hg (ne _ _ _ h1 (by omega)),h2.kept hg (ne _ _ _ h2 (by omega)),h3,Below.grown h4 hg (by have:=h1.lt; omega) (fun r e => by rcases hr r e with ⟨h5,_⟩ | h5 <;> omega),Nat.le_trans h6 hg.size⟩
 case ownx =>
  rintro _ pre X Y row ⟨h1,h3,h4⟩ hg hr
  have ne : ∀ B t v,Boxed X B t v → B ≠ w.heap.size + 1 + 1 → some B ≠ row:=fun B t v hb hB e => by
   rcases hr B e.symm with ⟨_,o,ho,hc⟩ | h5
   ·rw [show X.heap[B]? = _ from hb] at ho
    cases ho
    cases hc
   ·exact hB h5
  exact ⟨h1.kept hg (ne _ _ _ h1 (by omega)),h3,Below.grown h4 hg (by have:=h1.lt; omega) (fun r e => by rcases hr r e with ⟨h5,_⟩ | h5 <;> omega)⟩
 case assign =>
  intro l x W K hK
  gi_wp2
  exact hK
 case body =>
  rintro l pre x W ⟨h1,h2,h3,h4,h6⟩ hlt
  have hP:=part_calls x
  have c1:=h1.cell
  have f1:=h1.frozen
  have c2:=h2.cell
  have f2:=h2.frozen
  have hw : IntKind.i64.wrap ((pre.length : Int) + 1) = ((pre ++ [x]).length : Int):=by
   rw [wrap_small _ (by omega) (by omega)]
   simp
  cases hb : partB x with
  | false =>
   rw [hb] at hP
   gi_wp2_with (refine ⟨trivial,?_⟩; gi_at_call 112; refine (CallsIn.inRound l (callsIn_wide.2 (hP _))).mono ?_; rintro e w1 ⟨rfl,hb1⟩; have g1:=boxed_of h1 (hb1.block _ h1.lt); have c3:=g1.cell; have f3:=g1.frozen)
   have hke : KeepsOthers W w1:=⟨hb1.size,fun k o hk _ => (hb1.block k (Array.getElem?_eq_some_iff.1 hk).1).trans hk⟩
   refine ⟨(hke.trans (KeepsOthers.setCell _ _ _)).from _,g1.set _,⟨x,by simp,hb⟩,?_⟩
   refine Below.setCell (p:=⟨w.heap.size,0,none⟩) ?_ (Nat.le_refl _) _
   exact h4.trans (hb1.mono h4.size)
  | true =>
   rw [hb] at hP
   gi_wp2_with (refine ⟨trivial,?_⟩; gi_at_call 112; refine (CallsIn.inRound l (callsIn_wide.2 (hP _))).mono ?_; rintro e w1 ⟨rfl,hb1⟩; have g1:=boxed_of h1 (hb1.block _ h1.lt); have g2:=boxed_of h2 (hb1.block _ h2.lt); have c3:=g2.cell; have f3:=g2.frozen)
   have hke : KeepsOthers W w1:=⟨hb1.size,fun k o hk _ => (hb1.block k (Array.getElem?_eq_some_iff.1 hk).1).trans hk⟩
   have hsz1:=hb1.size
   have far : ∀ k,k < w.heap.size + 5 → k ≠ w.heap.size + 1 → ∀ v,(w1.setCell ⟨w.heap.size + 1,0,none⟩ v).heap[k]? = W.heap[k]?:=fun k hk hne v =>
    ((grownBy_setCell' w1 (w.heap.size + 1) v).block k (by omega) (by simp; omega)).trans (hb1.block k (by omega))
   refine ⟨(hke.trans (KeepsOthers.setCell _ _ _)).from _,⟨far _ (by omega) (by omega) _,far _ (by omega) (by omega) _,far _ (by omega) (by omega) _⟩,g1.other (by omega) _,?_,?_,?_,?_⟩
   ·have e : ((pre ++ [x]).length : Int) = (pre.length : Int) + 1:=by simp
    rw [e]
    exact g2.set _
   ·intro y hy
    rcases List.mem_append.1 hy with hy | hy
    ·exact h3 y hy
    ·rw [List.mem_singleton.1 hy]; exact hb
   ·refine Below.setCell (p:=⟨w.heap.size + 1,0,none⟩) ?_ (Nat.le_succ _) _
    exact h4.trans (hb1.mono h4.size)
   ·rw [World.size_setCell]
    omega
 case done =>
  rintro D xs W hD hS ⟨h1,h2,h3,h4,h6⟩ hdf
  have c1:=h1.cell
  have f1:=h1.frozen
  have c2:=h2.cell
  have hr : rightB s = decide ((xs.length : Int) ≤ 8):=by
   have e : xs.length = (pieces 47 s.data.toList).length:=by rw [← hS]; simp [lsS]
   have ha : (pieces 47 s.data.toList).all (fun y => partB ⟨y.toArray⟩) = true:=by
    rw [← hS,List.all_eq_true]
    intro y hy
    obtain ⟨z,hz,rfl⟩:=List.mem_map.1 hy
    exact h3 z hz
   rw [rightB,ha,e,Bool.true_and]
   exact decide_eq_decide.2 (by omega)
  gi_wp2
  have hdf2 : (W.setCell ⟨w.heap.size,0,none⟩ (.bool (decide ((xs.length : Int) ≤ 8)))).heap[D]? = some (.deferred (some [])):=((grownBy_setCell' W w.heap.size _).block D (Array.getElem?_eq_some_iff.1 hdf).1 (by simp; omega)).trans hdf
  refine ⟨by simp,.inl ⟨_,_,rfl,run_takeDeferred hdf2,?_⟩⟩
  have bE : Boxed ((W.setCell ⟨w.heap.size,0,none⟩ (.bool (decide ((xs.length : Int) ≤ 8)))).putObj D (.deferred none)) w.heap.size 4 (.bool (decide ((xs.length : Int) ≤ 8))):=(World.putObj_heap_other (by omega)).trans (h1.set _)
  have cE:=bE.cell
  refine ⟨.bool (decide ((xs.length : Int) ≤ 8)),by simp [results,Tryz.results66,go_sem,cE],by rw [hr],?_⟩
  refine Below.trans ?_ (belowK_b (w:=w) (Nat.le_refl _) _ D _ _ (by omega) hdf2 rfl rfl)
  exact Below.setCell (p:=⟨w.heap.size,0,none⟩) h4 (Nat.le_refl _) _
 case stop =>
  rintro D pre W hD hSp ⟨h1,⟨y,hy,hyp⟩,h4⟩ hdf
  have c1:=h1.cell
  have hr : rightB s = false:=by
   have ha : (pieces 47 s.data.toList).all (fun y => partB ⟨y.toArray⟩) = false:=by
    rw [List.all_eq_false]
    refine ⟨y.data.toList,hSp.subset (List.mem_map.2 ⟨y,hy,rfl⟩),?_⟩
    have : (⟨y.data.toList.toArray⟩ : ByteArray) = y:=rfl
    rw [this,hyp]
    simp
   rw [rightB,ha,Bool.false_and]
  gi_wp2
  refine ⟨by simp,.inl ⟨_,_,rfl,run_takeDeferred hdf,?_⟩⟩
  have bE : Boxed (W.putObj D (.deferred none)) w.heap.size 4 (.bool false):=(World.putObj_heap_other (by omega)).trans h1
  have cE:=bE.cell
  refine ⟨.bool false,by simp [results,Tryz.results66,go_sem,cE],by rw [hr],?_⟩
  exact Below.trans h4 (belowK_b (w:=w) (Nat.le_refl _) _ D _ _ (by omega) hdf rfl rfl)
end Go.Proofs.YthhohbidjhcjeaaGreatDoor.H
namespace Go.Proofs.YthhohbidjhcjeaaGreatDoor.H
open Go.RowKit Go.Shelf Go.Proofs.YthhohbidjhcjeaaGreatDoorW.PrintWords Go.Proofs.YthhohbidjhcjeaaGreatDoorW.PrintLast Go.Proofs.YthhohbidjhcjeaaGreatDoorW.PrintMore
def hasNL (s : ByteArray) : Bool:=decide (0 ≤ Lib.indexByte s.data.toList 10)
def linesB (l : List ByteArray) : Bool:=!(l.any hasNL)
theorem lit_calls (s : ByteArray) (w : World) : Calls Tryz.prog 115 #[.string s] w fun e w' => e = .returned (.bool (hasNL s)) ∧ w' = w:=by
 have hC:=Tryz.strings_Contains_one s 10 w
 have e0 : decide (0 ≤ Lib.indexByte s.data.toList 10) = hasNL s:=rfl
 rw [e0] at hC
 obtain ⟨b,hb⟩ : ∃ b,hasNL s = b:=⟨_,rfl⟩
 rw [hb] at hC ⊢
 clear e0 hb
 go_enter Tryz.func115,Tryz.ntmps115
 go_wp2_with (go_at_call 116; refine hC.mono ?_; rintro e w' ⟨rfl,rfl⟩)
 go_ret
 exact ⟨rfl,rfl⟩
set_option maxHeartbeats 1000000 in
theorem index_calls (A : Option Addr) (c : Nat) (l : List ByteArray) (w : World) (h : Kd.C Kd.string w A l.length l) :
  Calls Tryz.prog 148 #[.slice A l.length c,.func (.func 115) #[] #[]] w fun e w' => (∃ i : Int,e = .returned (.int .i64 i) ∧ decide (0 ≤ i) = l.any hasNL) ∧ w' = w:=by
 have hmax:=Kd.C_max h
 have e115 : ∀ args w,(callFunc 115 args).run Tryz.prog w = .ok (.enter 115 args) w:=enters_of Tryz.func115 (by kernel_rfl) rfl
 go_enter Tryz.func148,Tryz.ntmps148
 go_wp2
 go_loopg [8] l.length (fun gf v8 wx => ∃ j : Nat,v8 = .int .i64 (j : Int) ∧ wx = w ∧ j + gf = l.length ∧ (l.take j).any hasNL = false)
 case atStart => exact ⟨0,rfl,rfl,by omega,by simp⟩
 case round =>
  obtain ⟨j,rfl,rfl,hj,hn⟩:=hrel
  by_cases hlt : j < l.length
  ·obtain ⟨g',rfl⟩ : ∃ g',gk = g' + 1:=⟨gk - 1,by omega⟩
   obtain ⟨ad,rfl,hc⟩:=Kd.at_string h (j : Int) (by omega) (by omega)
   rw [Int.toNat_natCast] at hc
   have hx : rdOf ByteArray.empty l (j : Int) = l[j]:=by
    rw [rdOf,Int.toNat_natCast,List.getD_eq_getElem?_getD,List.getElem?_eq_getElem hlt,Option.getD_some]
   rw [hx] at hc
   have ht : (l.take (j + 1)).any hasNL = hasNL l[j]:=by
    rw [List.take_succ_eq_append_getElem hlt,List.any_append,hn]
    simp
   obtain ⟨x,hxx⟩ : ∃ x,l[j] = x:=⟨_,rfl⟩
   rw [hxx] at hc ht
   have hL:=lit_calls x
   cases hb : hasNL x with
   | true =>
    rw [hb] at hL
    go_wp2_with (go_at_fn 115; refine (hL _).mono ?_; rintro e w' ⟨rfl,hw⟩; rw [hw])
    go_ret
    refine ⟨⟨_,rfl,?_⟩,rfl⟩
    have : l.any hasNL = true:=List.any_eq_true.2 ⟨l[j],List.getElem_mem hlt,by rw [hxx,hb]⟩
    rw [this]
    exact decide_eq_true (by omega)
   | false =>
    rw [hb] at hL
    go_wp2_with (go_at_fn 115; refine (hL _).mono ?_; rintro e w' ⟨rfl,hw⟩; rw [hw])
    go_roundg g'
    case measure => omega
    case rel => exact ⟨j + 1,rfl,rfl,by omega,by rw [ht,hb]⟩
  ·have hjl : j = l.length:=by omega
   subst hjl
   go_wp2
   go_ret
   refine ⟨⟨_,rfl,?_⟩,rfl⟩
   rw [List.take_length] at hn
   rw [hn]
   rfl
theorem lines_calls (A : Option Addr) (c : Nat) (l : List ByteArray) (w : World) (h : Kd.C Kd.string w A l.length l) :
  Calls Tryz.prog 69 #[.slice A l.length c] w fun e w' => e = .returned (.bool (linesB l)) ∧ w' = w:=by
 have hC : Calls Tryz.prog 114 #[.slice A l.length c,.func (.func 115) #[] #[]] w fun e w' => e = .returned (.bool (l.any hasNL)) ∧ w' = w:=by
  have hI:=index_calls A c l w h
  obtain ⟨b,hb⟩ : ∃ b,l.any hasNL = b:=⟨_,rfl⟩
  rw [hb] at hI ⊢
  clear h hb
  go_enter Tryz.func114,Tryz.ntmps114
  go_wp2_with (go_at_call 148; refine hI.mono ?_; rintro e w' ⟨⟨i,rfl,hi⟩,rfl⟩)
  all_goals go_ret
  all_goals exact ⟨by simp_all,rfl⟩
 unfold linesB
 obtain ⟨b,hb⟩ : ∃ b,l.any hasNL = b:=⟨_,rfl⟩
 rw [hb] at hC ⊢
 clear h hb
 go_enter Tryz.func69,Tryz.ntmps69
 go_wp2_with (go_at_call 114; refine hC.mono ?_; rintro e w' ⟨rfl,rfl⟩)
 go_ret
 exact ⟨rfl,rfl⟩
end Go.Proofs.YthhohbidjhcjeaaGreatDoor.H
namespace Go.Proofs.YthhohbidjhcjeaaGreatDoor.Q
open Go.RowKit Go.Proofs.YthhohbidjhcjeaaGreatDoorW.PrintWords Go.Proofs.YthhohbidjhcjeaaGreatDoorW.PrintLast Go.Proofs.YthhohbidjhcjeaaGreatDoorW.PrintMore Go.Proofs.YthhohbidjhcjeaaGreatDoor.H
def path_Right.f (a0 : ByteArray) : Option Bool:=if a0.size ≤ 140737488355328 then some (rightB a0) else none
theorem path_Right.calls (a0 : ByteArray) (r : Bool) (w : World) (h : path_Right.f a0 = some r) : Calls Tryz.prog 66 #[.string a0] w fun e w' => e = .returned (.bool r) ∧ Below w.heap.size w w':=by
 unfold path_Right.f at h
 split at h
 ·rename_i hl
  obtain rfl:=Option.some.inj h
  exact callsIn_wide.1 (right_in a0 w hl)
 ·cases h
def lines_Right.f (l0 : List ByteArray) : Option Bool:=some (linesB l0)
theorem lines_Right.calls (A0 : Option Addr) (c0 : Nat) (l0 : List ByteArray) (r : Bool) (w : World) (hr0 : Kd.C Kd.string w A0 l0.length l0) (_hc0 : l0.length ≤ c0) (h : lines_Right.f l0 = some r) :
  Calls Tryz.prog 69 #[.slice A0 l0.length c0] w fun e w' => e = .returned (.bool r) ∧ Drawn0 w w':=by
 obtain rfl:=Option.some.inj h
 refine (lines_calls A0 c0 l0 w hr0).mono ?_
 rintro e w' ⟨rfl,rfl⟩
 exact ⟨rfl,Drawn0.refl _⟩
open Go.RowKit Go.Proofs.YthhohbidjhcjeaaGreatDoorW.PrintWords Go.Proofs.YthhohbidjhcjeaaGreatDoorW.PrintLast Go.Proofs.YthhohbidjhcjeaaGreatDoorW.PrintMore
attribute [local go_sem] max2_int min2_int max_two min_two max_three min_three max_four min_four   -- for this text's walks alone
set_option linter.unusedVariables false
set_option linter.unusedSimpArgs false

mutual
def prim_Right.j0 : Nat → Bool → Int → ByteArray → ByteArray → ByteArray → Int → List ByteArray → List ByteArray → Option (Bool)
 | 0,_,_,_,_,_,_,_,_ => none
 | k + 1,x3,x110000,x110001,x110002,x110003,x110004,x110005,x110006 => (path_Right.f x110001).bind fun t110 => (if t110 = true then (if x3 = true then (prim_Right.j1 k (x110000 != 7) x110000 x110001 x110002 x110003 x110004 x110005 x110006) else (prim_Right.j1 k false x110000 x110001 x110002 x110003 x110004 x110005 x110006)) else (prim_Right.j1 k (!t110) x110000 x110001 x110002 x110003 x110004 x110005 x110006))
def prim_Right.j1 : Nat → Bool → Int → ByteArray → ByteArray → ByteArray → Int → List ByteArray → List ByteArray → Option (Bool)
 | 0,_,_,_,_,_,_,_,_ => none
 | k + 1,x17,x110000,x110001,x110002,x110003,x110004,x110005,x110006 => if x17 = true then (some false) else (if x110000 = 8 then ((lines_Token.f k x110003).bind fun t111 => (if t111 = true then ((lines_Token.f k x110002).bind fun t112 => (if t112 = true then (some (x110003.toList != x110002.toList)) else (some false))) else (some false))) else (if x110000 = 9 then (some (x110003.toList != x110002.toList)) else (if x110003.toList = ([] : List UInt8) then (if x110000 = 10 then ((path_Right.f x110002).bind fun t113 => (if t113 = true then ((path_Apart.f x110001 x110002).bind fun t114 => (some t114)) else (some false))) else (if x110000 = 7 then (if x110002.toList = ([] : List UInt8) then (if x110004 ≥ 0 then (if x110004 ≤ 1073741824 then ((lines_Right.f x110005).bind fun t115 => (if t115 = true then ((lines_Right.f x110006).bind fun t116 => (if t116 = true then (some (decide ((wrap64 ((x110005.length : Int) + (x110006.length : Int))) > 0))) else (some false))) else (some false))) else (some false)) else (some false)) else (some false)) else (if x110002.toList = ([] : List UInt8) then (if x110000 ≥ 1 then (some (decide (x110000 ≤ 6))) else (some false)) else (some false)))) else (some false))))
end
def prim_Right.f (k : Nat) (a0_0 : Int) (a0_1 : ByteArray) (a0_2 : ByteArray) (a0_3 : ByteArray) (a0_4 : Int) (l0_5 : List ByteArray) (l0_6 : List ByteArray) : Option (Bool):=if (wrap64 ((l0_5.length : Int) + (l0_6.length : Int))) > 0 then (prim_Right.j0 k true a0_0 a0_1 a0_2 a0_3 a0_4 l0_5 l0_6) else (prim_Right.j0 k (a0_4 != 0) a0_0 a0_1 a0_2 a0_3 a0_4 l0_5 l0_6)
theorem prim_Right.mono_l : ∀ k,(∀ y0 y1 y2 y3 y4 y5 y6 y7,LeO (prim_Right.j0 k y0 y1 y2 y3 y4 y5 y6 y7) (prim_Right.j0 (k + 1) y0 y1 y2 y3 y4 y5 y6 y7)) ∧ (∀ y0 y1 y2 y3 y4 y5 y6 y7,LeO (prim_Right.j1 k y0 y1 y2 y3 y4 y5 y6 y7) (prim_Right.j1 (k + 1) y0 y1 y2 y3 y4 y5 y6 y7))
 | 0 => ⟨fun _ _ _ _ _ _ _ _ r h => by simp [prim_Right.j0] at h,fun _ _ _ _ _ _ _ _ r h => by simp [prim_Right.j1] at h⟩
 | k + 1 => by
  obtain ⟨ih0,ih1⟩:=prim_Right.mono_l k
  refine ⟨?_,?_⟩
  ·intro y0 y1 y2 y3 y4 y5 y6 y7
   unfold prim_Right.j0
   repeat' first
   | (with_reducible exact ih0 _ _ _ _ _ _ _ _)
   | (with_reducible exact ih1 _ _ _ _ _ _ _ _)
   | (with_reducible exact lines_Token.mono _ _)
   | (with_reducible exact LeO.refl _)
   | (with_reducible exact LeO.none _)
   | (with_reducible refine LeO.ite ?_ ?_)
   | (with_reducible refine LeO.bind ?_ (fun _ => ?_))
   | exact ih0 _ _ _ _ _ _ _ _
   | exact ih1 _ _ _ _ _ _ _ _
   | exact lines_Token.mono _ _
   | exact LeO.none _
   | refine LeO.ite ?_ ?_
   | refine LeO.bind ?_ (fun _ => ?_)
  ·intro y0 y1 y2 y3 y4 y5 y6 y7
   unfold prim_Right.j1
   repeat' first
   | (with_reducible exact ih0 _ _ _ _ _ _ _ _)
   | (with_reducible exact ih1 _ _ _ _ _ _ _ _)
   | (with_reducible exact lines_Token.mono _ _)
   | (with_reducible exact LeO.refl _)
   | (with_reducible exact LeO.none _)
   | (with_reducible refine LeO.ite ?_ ?_)
   | (with_reducible refine LeO.bind ?_ (fun _ => ?_))
   | exact ih0 _ _ _ _ _ _ _ _
   | exact ih1 _ _ _ _ _ _ _ _
   | exact lines_Token.mono _ _
   | exact LeO.none _
   | refine LeO.ite ?_ ?_
   | refine LeO.bind ?_ (fun _ => ?_)
theorem prim_Right.mono : ∀ a0 a1 a2 a3 a4 a5 a6 k,LeO (prim_Right.f k a0 a1 a2 a3 a4 a5 a6) (prim_Right.f (k + 1) a0 a1 a2 a3 a4 a5 a6):=by
 intro a0 a1 a2 a3 a4 a5 a6 k
 obtain ⟨ih0,ih1⟩:=prim_Right.mono_l k
 unfold prim_Right.f
 repeat' first
   | (with_reducible exact ih0 _ _ _ _ _ _ _ _)
   | (with_reducible exact ih1 _ _ _ _ _ _ _ _)
   | (with_reducible exact lines_Token.mono _ _)
   | (with_reducible exact LeO.refl _)
   | (with_reducible exact LeO.none _)
   | (with_reducible refine LeO.ite ?_ ?_)
   | (with_reducible refine LeO.bind ?_ (fun _ => ?_))
   | exact ih0 _ _ _ _ _ _ _ _
   | exact ih1 _ _ _ _ _ _ _ _
   | exact lines_Token.mono _ _
   | exact LeO.none _
   | refine LeO.ite ?_ ?_
   | refine LeO.bind ?_ (fun _ => ?_)
set_option maxHeartbeats 8000000 in
set_option maxRecDepth 100000 in
theorem prim_Right.calls (k : Nat) (a0_0 : Int) (a0_1 : ByteArray) (a0_2 : ByteArray) (a0_3 : ByteArray) (a0_4 : Int) (A0_5 : Option Addr) (c0_5 : Nat) (l0_5 : List ByteArray) (A0_6 : Option Addr) (c0_6 : Nat) (l0_6 : List ByteArray) (r : Bool) (w : World) (hr0_5 : Kd.C Kd.string w A0_5 l0_5.length l0_5) (hc0_5 : l0_5.length ≤ c0_5) (hr0_6 : Kd.C Kd.string w A0_6 l0_6.length l0_6) (hc0_6 : l0_6.length ≤ c0_6) (h : prim_Right.f k a0_0 a0_1 a0_2 a0_3 a0_4 l0_5 l0_6 = some r) :
  Calls Tryz.prog 25 #[.agg #[.int .i64 a0_0,.string a0_1,.string a0_2,.string a0_3,.int .i64 a0_4,.slice A0_5 l0_5.length c0_5,.slice A0_6 l0_6.length c0_6]] w fun e w' => e = .returned (.bool r) ∧ Below w.heap.size w w':=by
 have hu25:=Tryz.underlying25
 have HR0_5:=Aside0.mk hr0_5
 have HC0_5:=Aside0.mk hc0_5
 clear hr0_5 hc0_5
 have HR0_6:=Aside0.mk hr0_6
 have HC0_6:=Aside0.mk hc0_6
 clear hr0_6 hc0_6
 have HB:=Aside0.mk (Below.refl w.heap.size w)
 have H : (if (wrap64 ((l0_5.length : Int) + (l0_6.length : Int))) > 0 then (prim_Right.j0 k true a0_0 a0_1 a0_2 a0_3 a0_4 l0_5 l0_6) else (prim_Right.j0 k (a0_4 != 0) a0_0 a0_1 a0_2 a0_3 a0_4 l0_5 l0_6)) = some r:=h
 clear h
 have HC2:=Aside0.mk H
 clear H
 go_enter Tryz.func25,Tryz.ntmps25
 go_upto_region 1 with (first | ((with_reducible refine gate_dst (N:=1) rfl ?_); (try (refine gate_guard (by rfl) ?_; dsimp only)); refine box_event ?hg (N:=1) ?hd (cs:=#[.int .i64 a0_0,.string a0_1,.string a0_2,.string a0_3,.int .i64 a0_4,.slice A0_5 l0_5.length c0_5,.slice A0_6 l0_6.length c0_6]) (t:=25) ?hr ?_; (case hd => rfl); (case hg => rfl); (case hr => first | (go_simp; done) | (go_simp; rfl)); intro gb109 hg w3 hbox hb; have n0_:=Aside0.mk (below_step (by repeat (first | (with_reducible first | exact HB.out | apply below_alloc | apply pw_below_drewN | apply below_drew1) | exact HB.out)) hb); have n1_:=Aside0.mk (hbox); have n2_:=Aside0.mk ((by rw [hg]; exact (below_size (by repeat (first | (with_reducible first | exact HB.out | apply below_alloc | apply pw_below_drewN | apply below_drew1) | exact HB.out))) : w.heap.size ≤ gb109)); have n3_:=Aside0.mk ((by rw [hg]; exact (below_size (by repeat (first | (with_reducible first | exact HB.out | apply below_alloc | apply pw_below_drewN | apply below_drew1) | exact HB.out))) : w.heap.size ≤ gb109)); clear HB; have HB:=n0_; have BK109:=n1_; have GW109:=n2_; have GE109:=n3_; clear n0_ n1_ n2_ n3_; clear hb hbox hg))
 (try simp only [Act.put,List.setIfInBounds_toArray,List.set_cons_zero,List.set_cons_succ])
 go_cut [3] (fun v3 wc => ∃ (kq : Nat) (x3_1 : Bool),v3 = .bool x3_1 ∧ Aside0 (prim_Right.j0 kq x3_1 a0_0 a0_1 a0_2 a0_3 a0_4 l0_5 l0_6 = some r) ∧ Aside0 (kq ≤ k) ∧ Aside0 (wc.heap[gb109]? = some (.cells #[.int .i64 a0_0,.string a0_1,.string a0_2,.string a0_3,.int .i64 a0_4,(.slice A0_5 l0_5.length c0_5),(.slice A0_6 l0_6.length c0_6)] 25 (0,0))) ∧ Aside0 (Below w.heap.size w wc))
 case first =>
  have H:=HC2.out
  clear HC2
  by_cases c4 : (wrap64 ((l0_5.length : Int) + (l0_6.length : Int))) > 0
  ·rw [if_pos c4] at H
   have c4b0 : decide (0 < (wrap64 ((l0_5.length : Int) + (l0_6.length : Int)))) = true:=decide_eq_true c4
   clear c4
   (first | rw [c4b0] | (simp only [i64_w,i32_w]; rw [c4b0]) | skip)
   have H':=Aside0.mk H
   clear H
   have hcz5_0 : w3.cell? ⟨gb109,0,none⟩ = some (.int .i64 a0_0):=(blk_cell BK109.out 0).trans rfl
   have hcz5_1 : w3.cell? ⟨gb109,1,none⟩ = some (.string a0_1):=(blk_cell BK109.out 1).trans rfl
   have hcz5_2 : w3.cell? ⟨gb109,2,none⟩ = some (.string a0_2):=(blk_cell BK109.out 2).trans rfl
   have hcz5_3 : w3.cell? ⟨gb109,3,none⟩ = some (.string a0_3):=(blk_cell BK109.out 3).trans rfl
   have hcz5_4 : w3.cell? ⟨gb109,4,none⟩ = some (.int .i64 a0_4):=(blk_cell BK109.out 4).trans rfl
   have hcz5_5 : w3.cell? ⟨gb109,5,none⟩ = some (.slice A0_5 l0_5.length c0_5):=(blk_cell BK109.out 5).trans rfl
   have hcz5_6 : w3.cell? ⟨gb109,6,none⟩ = some (.slice A0_6 l0_6.length c0_6):=(blk_cell BK109.out 6).trans rfl
   have hfz5_0:=blk_frozen BK109.out 0
   have hfz5_1:=blk_frozen BK109.out 1
   have hfz5_2:=blk_frozen BK109.out 2
   have hfz5_3:=blk_frozen BK109.out 3
   have hfz5_4:=blk_frozen BK109.out 4
   have hfz5_5:=blk_frozen BK109.out 5
   have hfz5_6:=blk_frozen BK109.out 6
   go_wp2
   go_meet
   case rel => exact ⟨_,(true),(by first | rfl | (simp; done) | (simp [*]; done)),H',⟨by first | omega | exact Nat.le_refl _⟩,⟨by (with_reducible repeat (first | refine blk_drewN ?_ _ | refine blk_drew ?_ | refine blk_alloc ?_ _)); exact BK109.out⟩,⟨by repeat (first | (with_reducible first | exact HB.out | apply below_alloc | apply pw_below_drewN | apply below_drew1 | refine below_set ?_ GE109.out) | exact HB.out)⟩⟩
  ·rw [if_neg c4] at H
   have c4b0 : decide (0 < (wrap64 ((l0_5.length : Int) + (l0_6.length : Int)))) = false:=decide_eq_false c4
   clear c4
   (first | rw [c4b0] | (simp only [i64_w,i32_w]; rw [c4b0]) | skip)
   have H':=Aside0.mk H
   clear H
   have hcz6_0 : w3.cell? ⟨gb109,0,none⟩ = some (.int .i64 a0_0):=(blk_cell BK109.out 0).trans rfl
   have hcz6_1 : w3.cell? ⟨gb109,1,none⟩ = some (.string a0_1):=(blk_cell BK109.out 1).trans rfl
   have hcz6_2 : w3.cell? ⟨gb109,2,none⟩ = some (.string a0_2):=(blk_cell BK109.out 2).trans rfl
   have hcz6_3 : w3.cell? ⟨gb109,3,none⟩ = some (.string a0_3):=(blk_cell BK109.out 3).trans rfl
   have hcz6_4 : w3.cell? ⟨gb109,4,none⟩ = some (.int .i64 a0_4):=(blk_cell BK109.out 4).trans rfl
   have hcz6_5 : w3.cell? ⟨gb109,5,none⟩ = some (.slice A0_5 l0_5.length c0_5):=(blk_cell BK109.out 5).trans rfl
   have hcz6_6 : w3.cell? ⟨gb109,6,none⟩ = some (.slice A0_6 l0_6.length c0_6):=(blk_cell BK109.out 6).trans rfl
   have hfz6_0:=blk_frozen BK109.out 0
   have hfz6_1:=blk_frozen BK109.out 1
   have hfz6_2:=blk_frozen BK109.out 2
   have hfz6_3:=blk_frozen BK109.out 3
   have hfz6_4:=blk_frozen BK109.out 4
   have hfz6_5:=blk_frozen BK109.out 5
   have hfz6_6:=blk_frozen BK109.out 6
   go_wp2
   go_meet
   case rel => exact ⟨_,((a0_4 != 0)),(by first | rfl | (simp; done) | (simp [*]; done)),H',⟨by first | omega | exact Nat.le_refl _⟩,⟨by (with_reducible repeat (first | refine blk_drewN ?_ _ | refine blk_drew ?_ | refine blk_alloc ?_ _)); exact BK109.out⟩,⟨by repeat (first | (with_reducible first | exact HB.out | apply below_alloc | apply pw_below_drewN | apply below_drew1 | refine below_set ?_ GE109.out) | exact HB.out)⟩⟩
 case rest =>
  clear HC2
  try clear c2
  try clear p2
  try clear c4
  try clear c4b0
  try clear p6
  try clear hcz5_0
  try clear hcz5_1
  try clear hcz5_2
  try clear hcz5_3
  try clear hcz5_4
  try clear hcz5_5
  try clear hcz5_6
  try clear hcz6_0
  try clear hcz6_1
  try clear hcz6_2
  try clear hcz6_3
  try clear hcz6_4
  try clear hcz6_5
  try clear hcz6_6
  try clear hfz5_0
  try clear hfz5_1
  try clear hfz5_2
  try clear hfz5_3
  try clear hfz5_4
  try clear hfz5_5
  try clear hfz5_6
  try clear hfz6_0
  try clear hfz6_1
  try clear hfz6_2
  try clear hfz6_3
  try clear hfz6_4
  try clear hfz6_5
  try clear hfz6_6
  obtain ⟨kq,x3_1,rfl,HA,HJ1,BK109,HB⟩:=hcut
  cases kq with
  | zero => exact absurd HA.out (by simp [prim_Right.j0])
  | succ kj1 =>
   have H:=HA.out
   clear HA
   simp only [prim_Right.j0] at H
   replace H:=Option.bind_eq_some_iff.mp H
   obtain ⟨t110,A70,H⟩:=H
   replace H : (if t110 = true then (if x3_1 = true then (prim_Right.j1 kj1 (a0_0 != 7) a0_0 a0_1 a0_2 a0_3 a0_4 l0_5 l0_6) else (prim_Right.j1 kj1 false a0_0 a0_1 a0_2 a0_3 a0_4 l0_5 l0_6)) else (prim_Right.j1 kj1 (!t110) a0_0 a0_1 a0_2 a0_3 a0_4 l0_5 l0_6)) = some r:=H
   have A7:=Aside0.mk A70
   clear A70
   have HC8:=Aside0.mk H
   clear H
   have hcz9_0 : wc.cell? ⟨gb109,0,none⟩ = some (.int .i64 a0_0):=(blk_cell BK109.out 0).trans rfl
   have hcz9_1 : wc.cell? ⟨gb109,1,none⟩ = some (.string a0_1):=(blk_cell BK109.out 1).trans rfl
   have hcz9_2 : wc.cell? ⟨gb109,2,none⟩ = some (.string a0_2):=(blk_cell BK109.out 2).trans rfl
   have hcz9_3 : wc.cell? ⟨gb109,3,none⟩ = some (.string a0_3):=(blk_cell BK109.out 3).trans rfl
   have hcz9_4 : wc.cell? ⟨gb109,4,none⟩ = some (.int .i64 a0_4):=(blk_cell BK109.out 4).trans rfl
   have hcz9_5 : wc.cell? ⟨gb109,5,none⟩ = some (.slice A0_5 l0_5.length c0_5):=(blk_cell BK109.out 5).trans rfl
   have hcz9_6 : wc.cell? ⟨gb109,6,none⟩ = some (.slice A0_6 l0_6.length c0_6):=(blk_cell BK109.out 6).trans rfl
   have hfz9_0:=blk_frozen BK109.out 0
   have hfz9_1:=blk_frozen BK109.out 1
   have hfz9_2:=blk_frozen BK109.out 2
   have hfz9_3:=blk_frozen BK109.out 3
   have hfz9_4:=blk_frozen BK109.out 4
   have hfz9_5:=blk_frozen BK109.out 5
   have hfz9_6:=blk_frozen BK109.out 6
   go_upto_if 17 with (first | ((with_reducible refine gate_callee (f:=66) rfl ?_); refine goesL_ (some 20) rfl rfl Tryz.func66 (by kernel_rfl) rfl #[.string a0_1] rfl (by (try simp only [List.map_toArray,List.map_cons,List.map_nil]); first | done | rfl | (simp only [List.length_drop,List.length_take]; rfl)) ?_; (with_reducible refine (path_Right.calls a0_1 t110 _ A7.out).mono ?_); rintro e w10 ⟨rfl,hb⟩; refine ⟨_,rfl,?_⟩; have n0_:=Aside0.mk (blk_below (g:=gb109) (o:=.cells #[.int .i64 a0_0,.string a0_1,.string a0_2,.string a0_3,.int .i64 a0_4,.slice A0_5 l0_5.length c0_5,.slice A0_6 l0_6.length c0_6] 25 (0,0)) (by (with_reducible repeat (first | refine blk_drewN ?_ _ | refine blk_drew ?_ | refine blk_alloc ?_ _)); exact BK109.out) hb); have n1_:=Aside0.mk (below_step (by repeat (first | (with_reducible first | exact HB.out | apply below_alloc | apply pw_below_drewN | apply below_drew1 | refine below_set ?_ GE109.out) | exact HB.out)) hb); clear BK109; clear HB; have BK109:=n0_; have HB:=n1_; clear n0_ n1_; (try clear hb); (try clear hb2); (try clear hk); (try clear hi)))
   (try simp only [Act.put,List.setIfInBounds_toArray,List.set_cons_zero,List.set_cons_succ])
   go_cut [17] (fun v17 wc => ∃ (kq : Nat) (x17_7 : Bool),v17 = .bool x17_7 ∧ Aside0 (prim_Right.j1 kq x17_7 a0_0 a0_1 a0_2 a0_3 a0_4 l0_5 l0_6 = some r) ∧ Aside0 (kq ≤ kj1) ∧ Aside0 (wc.heap[gb109]? = some (.cells #[.int .i64 a0_0,.string a0_1,.string a0_2,.string a0_3,.int .i64 a0_4,(.slice A0_5 l0_5.length c0_5),(.slice A0_6 l0_6.length c0_6)] 25 (0,0))) ∧ Aside0 (Below w.heap.size w wc))
   case first =>
    have H:=HC8.out
    clear HC8
    by_cases c11 : t110 = true
    ·subst c11
     have H1 : (if x3_1 = true then (prim_Right.j1 kj1 (a0_0 != 7) a0_0 a0_1 a0_2 a0_3 a0_4 l0_5 l0_6) else (prim_Right.j1 kj1 false a0_0 a0_1 a0_2 a0_3 a0_4 l0_5 l0_6)) = some r:=by rw [if_pos rfl] at H; exact H
     clear H
     have H:=H1
     clear H1
     by_cases c12 : x3_1 = true
     ·subst c12
      have H1 : (prim_Right.j1 kj1 (a0_0 != 7) a0_0 a0_1 a0_2 a0_3 a0_4 l0_5 l0_6) = some r:=by rw [if_pos rfl] at H; exact H
      clear H
      have H:=H1
      clear H1
      have H':=Aside0.mk H
      clear H
      have hcz13_0 : w10.cell? ⟨gb109,0,none⟩ = some (.int .i64 a0_0):=(blk_cell BK109.out 0).trans rfl
      have hcz13_1 : w10.cell? ⟨gb109,1,none⟩ = some (.string a0_1):=(blk_cell BK109.out 1).trans rfl
      have hcz13_2 : w10.cell? ⟨gb109,2,none⟩ = some (.string a0_2):=(blk_cell BK109.out 2).trans rfl
      have hcz13_3 : w10.cell? ⟨gb109,3,none⟩ = some (.string a0_3):=(blk_cell BK109.out 3).trans rfl
      have hcz13_4 : w10.cell? ⟨gb109,4,none⟩ = some (.int .i64 a0_4):=(blk_cell BK109.out 4).trans rfl
      have hcz13_5 : w10.cell? ⟨gb109,5,none⟩ = some (.slice A0_5 l0_5.length c0_5):=(blk_cell BK109.out 5).trans rfl
      have hcz13_6 : w10.cell? ⟨gb109,6,none⟩ = some (.slice A0_6 l0_6.length c0_6):=(blk_cell BK109.out 6).trans rfl
      have hfz13_0:=blk_frozen BK109.out 0
      have hfz13_1:=blk_frozen BK109.out 1
      have hfz13_2:=blk_frozen BK109.out 2
      have hfz13_3:=blk_frozen BK109.out 3
      have hfz13_4:=blk_frozen BK109.out 4
      have hfz13_5:=blk_frozen BK109.out 5
      have hfz13_6:=blk_frozen BK109.out 6
      go_wp2
      go_meet
      case rel => exact ⟨_,((a0_0 != 7)),(by first | rfl | (simp; done) | (simp [*]; done)),H',⟨by have:=HJ1.out; first | omega | exact Nat.le_refl _⟩,⟨by (with_reducible repeat (first | refine blk_drewN ?_ _ | refine blk_drew ?_ | refine blk_alloc ?_ _)); exact BK109.out⟩,⟨by repeat (first | (with_reducible first | exact HB.out | apply below_alloc | apply pw_below_drewN | apply below_drew1 | refine below_set ?_ GE109.out) | exact HB.out)⟩⟩
     ·replace c12:=Bool.eq_false_iff.mpr c12
      subst c12
      have H1 : (prim_Right.j1 kj1 false a0_0 a0_1 a0_2 a0_3 a0_4 l0_5 l0_6) = some r:=by rw [if_neg (show ¬ (false = true) by decide)] at H; exact H
      clear H
      have H:=H1
      clear H1
      have H':=Aside0.mk H
      clear H
      go_wp2
      go_meet
      case rel => exact ⟨_,(false),(by first | rfl | (simp; done) | (simp [*]; done)),H',⟨by have:=HJ1.out; first | omega | exact Nat.le_refl _⟩,⟨by (with_reducible repeat (first | refine blk_drewN ?_ _ | refine blk_drew ?_ | refine blk_alloc ?_ _)); exact BK109.out⟩,⟨by repeat (first | (with_reducible first | exact HB.out | apply below_alloc | apply pw_below_drewN | apply below_drew1 | refine below_set ?_ GE109.out) | exact HB.out)⟩⟩
    ·replace c11:=Bool.eq_false_iff.mpr c11
     subst c11
     have H1 : (prim_Right.j1 kj1 (!false) a0_0 a0_1 a0_2 a0_3 a0_4 l0_5 l0_6) = some r:=by rw [if_neg (show ¬ (false = true) by decide)] at H; exact H
     clear H
     have H:=H1
     clear H1
     have H':=Aside0.mk H
     clear H
     go_wp2
     go_meet
     case rel => exact ⟨_,(!false),(by first | rfl | (simp; done) | (simp [*]; done)),H',⟨by have:=HJ1.out; first | omega | exact Nat.le_refl _⟩,⟨by (with_reducible repeat (first | refine blk_drewN ?_ _ | refine blk_drew ?_ | refine blk_alloc ?_ _)); exact BK109.out⟩,⟨by repeat (first | (with_reducible first | exact HB.out | apply below_alloc | apply pw_below_drewN | apply below_drew1 | refine below_set ?_ GE109.out) | exact HB.out)⟩⟩
   case rest =>
    clear HC8
    try clear c1
    try clear c2
    try clear p2
    try clear c4
    try clear c4b0
    try clear c6
    try clear p6
    try clear c11
    try clear c12
    try clear hcz13_0
    try clear hcz13_1
    try clear hcz13_2
    try clear hcz13_3
    try clear hcz13_4
    try clear hcz13_5
    try clear hcz13_6
    try clear hcz5_0
    try clear hcz5_1
    try clear hcz5_2
    try clear hcz5_3
    try clear hcz5_4
    try clear hcz5_5
    try clear hcz5_6
    try clear hcz6_0
    try clear hcz6_1
    try clear hcz6_2
    try clear hcz6_3
    try clear hcz6_4
    try clear hcz6_5
    try clear hcz6_6
    try clear hcz9_0
    try clear hcz9_1
    try clear hcz9_2
    try clear hcz9_3
    try clear hcz9_4
    try clear hcz9_5
    try clear hcz9_6
    try clear hfz13_0
    try clear hfz13_1
    try clear hfz13_2
    try clear hfz13_3
    try clear hfz13_4
    try clear hfz13_5
    try clear hfz13_6
    try clear hfz5_0
    try clear hfz5_1
    try clear hfz5_2
    try clear hfz5_3
    try clear hfz5_4
    try clear hfz5_5
    try clear hfz5_6
    try clear hfz6_0
    try clear hfz6_1
    try clear hfz6_2
    try clear hfz6_3
    try clear hfz6_4
    try clear hfz6_5
    try clear hfz6_6
    try clear hfz9_0
    try clear hfz9_1
    try clear hfz9_2
    try clear hfz9_3
    try clear hfz9_4
    try clear hfz9_5
    try clear hfz9_6
    try clear p2
    try clear p6
    obtain ⟨kq,x17_7,rfl,HA,HJ7,BK109,HB⟩:=hcut
    cases kq with
    | zero => exact absurd HA.out (by simp [prim_Right.j1])
    | succ kj7 =>
     have H:=HA.out
     clear HA
     simp only [prim_Right.j1] at H
     by_cases c14 : x17_7 = true
     ·subst c14
      have H1 : (some false) = some r:=by rw [if_pos rfl] at H; exact H
      clear H
      have H:=H1
      clear H1
      obtain rfl:=Option.some.inj H
      go_wp2
      go_ret
      exact ⟨by first | rfl | (simp [errW_none,errW_some] <;> rfl) | (simp [*,errW_none,errW_some] <;> rfl),by repeat (first | (with_reducible first | exact HB.out | apply below_alloc | apply pw_below_drewN | apply below_drew1 | refine below_set ?_ GE109.out) | exact HB.out)⟩
     ·replace c14:=Bool.eq_false_iff.mpr c14
      subst c14
      have H1 : (if a0_0 = 8 then ((lines_Token.f kj7 a0_3).bind fun t111 => (if t111 = true then ((lines_Token.f kj7 a0_2).bind fun t112 => (if t112 = true then (some (a0_3.toList != a0_2.toList)) else (some false))) else (some false))) else (if a0_0 = 9 then (some (a0_3.toList != a0_2.toList)) else (if a0_3.toList = ([] : List UInt8) then (if a0_0 = 10 then ((path_Right.f a0_2).bind fun t113 => (if t113 = true then ((path_Apart.f a0_1 a0_2).bind fun t114 => (some t114)) else (some false))) else (if a0_0 = 7 then (if a0_2.toList = ([] : List UInt8) then (if a0_4 ≥ 0 then (if a0_4 ≤ 1073741824 then ((lines_Right.f l0_5).bind fun t115 => (if t115 = true then ((lines_Right.f l0_6).bind fun t116 => (if t116 = true then (some (decide ((wrap64 ((l0_5.length : Int) + (l0_6.length : Int))) > 0))) else (some false))) else (some false))) else (some false)) else (some false)) else (some false)) else (if a0_2.toList = ([] : List UInt8) then (if a0_0 ≥ 1 then (some (decide (a0_0 ≤ 6))) else (some false)) else (some false)))) else (some false)))) = some r:=by rw [if_neg (show ¬ (false = true) by decide)] at H; exact H
      clear H
      have H:=H1
      clear H1
      by_cases c15 : a0_0 = 8
      ·rw [if_pos c15] at H
       have c15b0 : (a0_0 == 8) = true:=beq_iff_eq.mpr c15
       have c15b1 : (a0_0 != 8) = false:=bne_eq_false_iff_eq.mpr c15
       clear c15
       replace H:=Option.bind_eq_some_iff.mp H
       obtain ⟨t111,A160,H⟩:=H
       replace H : (if t111 = true then ((lines_Token.f kj7 a0_2).bind fun t112 => (if t112 = true then (some (a0_3.toList != a0_2.toList)) else (some false))) else (some false)) = some r:=H
       have A16:=Aside0.mk A160
       clear A160
       by_cases c17 : t111 = true
       ·subst c17
        have H1 : ((lines_Token.f kj7 a0_2).bind fun t112 => (if t112 = true then (some (a0_3.toList != a0_2.toList)) else (some false))) = some r:=by rw [if_pos rfl] at H; exact H
        clear H
        have H:=H1
        clear H1
        replace H:=Option.bind_eq_some_iff.mp H
        obtain ⟨t112,A180,H⟩:=H
        replace H : (if t112 = true then (some (a0_3.toList != a0_2.toList)) else (some false)) = some r:=H
        have A18:=Aside0.mk A180
        clear A180
        by_cases c19 : t112 = true
        ·subst c19
         have H1 : (some (a0_3.toList != a0_2.toList)) = some r:=by rw [if_pos rfl] at H; exact H
         clear H
         have H:=H1
         clear H1
         obtain rfl:=Option.some.inj H
         have hcz20_0 : wc.cell? ⟨gb109,0,none⟩ = some (.int .i64 a0_0):=(blk_cell BK109.out 0).trans rfl
         have hcz20_1 : wc.cell? ⟨gb109,1,none⟩ = some (.string a0_1):=(blk_cell BK109.out 1).trans rfl
         have hcz20_2 : wc.cell? ⟨gb109,2,none⟩ = some (.string a0_2):=(blk_cell BK109.out 2).trans rfl
         have hcz20_3 : wc.cell? ⟨gb109,3,none⟩ = some (.string a0_3):=(blk_cell BK109.out 3).trans rfl
         have hcz20_4 : wc.cell? ⟨gb109,4,none⟩ = some (.int .i64 a0_4):=(blk_cell BK109.out 4).trans rfl
         have hcz20_5 : wc.cell? ⟨gb109,5,none⟩ = some (.slice A0_5 l0_5.length c0_5):=(blk_cell BK109.out 5).trans rfl
         have hcz20_6 : wc.cell? ⟨gb109,6,none⟩ = some (.slice A0_6 l0_6.length c0_6):=(blk_cell BK109.out 6).trans rfl
         have hfz20_0:=blk_frozen BK109.out 0
         have hfz20_1:=blk_frozen BK109.out 1
         have hfz20_2:=blk_frozen BK109.out 2
         have hfz20_3:=blk_frozen BK109.out 3
         have hfz20_4:=blk_frozen BK109.out 4
         have hfz20_5:=blk_frozen BK109.out 5
         have hfz20_6:=blk_frozen BK109.out 6
         go_wp2_with (first | ((with_reducible refine gate_callee (f:=67) rfl ?_); refine goesL_ (some 34) rfl rfl Tryz.func67 (by kernel_rfl) rfl #[.string a0_3] rfl (by (try simp only [List.map_toArray,List.map_cons,List.map_nil]); first | done | rfl | (simp only [List.length_drop,List.length_take]; rfl)) ?_; (with_reducible refine (lines_Token.calls kj7 a0_3 true _ A16.out).mono ?_); rintro e w' ⟨rfl,⟨nd,rfl⟩⟩; refine ⟨_,rfl,?_⟩) | (go_at_call 67; (with_reducible refine (lines_Token.calls kj7 a0_2 true _ A18.out).mono ?_); rintro e w' ⟨rfl,⟨nd,rfl⟩⟩))
         go_ret
         exact ⟨by first | rfl | (simp [errW_none,errW_some] <;> rfl) | (simp [*,errW_none,errW_some] <;> rfl),by repeat (first | (with_reducible first | exact HB.out | apply below_alloc | apply pw_below_drewN | apply below_drew1 | refine below_set ?_ GE109.out) | exact HB.out)⟩
        ·replace c19:=Bool.eq_false_iff.mpr c19
         subst c19
         have H1 : (some false) = some r:=by rw [if_neg (show ¬ (false = true) by decide)] at H; exact H
         clear H
         have H:=H1
         clear H1
         obtain rfl:=Option.some.inj H
         have hcz21_0 : wc.cell? ⟨gb109,0,none⟩ = some (.int .i64 a0_0):=(blk_cell BK109.out 0).trans rfl
         have hcz21_1 : wc.cell? ⟨gb109,1,none⟩ = some (.string a0_1):=(blk_cell BK109.out 1).trans rfl
         have hcz21_2 : wc.cell? ⟨gb109,2,none⟩ = some (.string a0_2):=(blk_cell BK109.out 2).trans rfl
         have hcz21_3 : wc.cell? ⟨gb109,3,none⟩ = some (.string a0_3):=(blk_cell BK109.out 3).trans rfl
         have hcz21_4 : wc.cell? ⟨gb109,4,none⟩ = some (.int .i64 a0_4):=(blk_cell BK109.out 4).trans rfl
         have hcz21_5 : wc.cell? ⟨gb109,5,none⟩ = some (.slice A0_5 l0_5.length c0_5):=(blk_cell BK109.out 5).trans rfl
         have hcz21_6 : wc.cell? ⟨gb109,6,none⟩ = some (.slice A0_6 l0_6.length c0_6):=(blk_cell BK109.out 6).trans rfl
         have hfz21_0:=blk_frozen BK109.out 0
         have hfz21_1:=blk_frozen BK109.out 1
         have hfz21_2:=blk_frozen BK109.out 2
         have hfz21_3:=blk_frozen BK109.out 3
         have hfz21_4:=blk_frozen BK109.out 4
         have hfz21_5:=blk_frozen BK109.out 5
         have hfz21_6:=blk_frozen BK109.out 6
         go_wp2_with (first | ((with_reducible refine gate_callee (f:=67) rfl ?_); refine goesL_ (some 34) rfl rfl Tryz.func67 (by kernel_rfl) rfl #[.string a0_3] rfl (by (try simp only [List.map_toArray,List.map_cons,List.map_nil]); first | done | rfl | (simp only [List.length_drop,List.length_take]; rfl)) ?_; (with_reducible refine (lines_Token.calls kj7 a0_3 true _ A16.out).mono ?_); rintro e w' ⟨rfl,⟨nd,rfl⟩⟩; refine ⟨_,rfl,?_⟩) | (go_at_call 67; (with_reducible refine (lines_Token.calls kj7 a0_2 false _ A18.out).mono ?_); rintro e w' ⟨rfl,⟨nd,rfl⟩⟩))
         go_ret
         exact ⟨by first | rfl | (simp [errW_none,errW_some] <;> rfl) | (simp [*,errW_none,errW_some] <;> rfl),by repeat (first | (with_reducible first | exact HB.out | apply below_alloc | apply pw_below_drewN | apply below_drew1 | refine below_set ?_ GE109.out) | exact HB.out)⟩
       ·replace c17:=Bool.eq_false_iff.mpr c17
        subst c17
        have H1 : (some false) = some r:=by rw [if_neg (show ¬ (false = true) by decide)] at H; exact H
        clear H
        have H:=H1
        clear H1
        obtain rfl:=Option.some.inj H
        have hcz22_0 : wc.cell? ⟨gb109,0,none⟩ = some (.int .i64 a0_0):=(blk_cell BK109.out 0).trans rfl
        have hcz22_1 : wc.cell? ⟨gb109,1,none⟩ = some (.string a0_1):=(blk_cell BK109.out 1).trans rfl
        have hcz22_2 : wc.cell? ⟨gb109,2,none⟩ = some (.string a0_2):=(blk_cell BK109.out 2).trans rfl
        have hcz22_3 : wc.cell? ⟨gb109,3,none⟩ = some (.string a0_3):=(blk_cell BK109.out 3).trans rfl
        have hcz22_4 : wc.cell? ⟨gb109,4,none⟩ = some (.int .i64 a0_4):=(blk_cell BK109.out 4).trans rfl
        have hcz22_5 : wc.cell? ⟨gb109,5,none⟩ = some (.slice A0_5 l0_5.length c0_5):=(blk_cell BK109.out 5).trans rfl
        have hcz22_6 : wc.cell? ⟨gb109,6,none⟩ = some (.slice A0_6 l0_6.length c0_6):=(blk_cell BK109.out 6).trans rfl
        have hfz22_0:=blk_frozen BK109.out 0
        have hfz22_1:=blk_frozen BK109.out 1
        have hfz22_2:=blk_frozen BK109.out 2
        have hfz22_3:=blk_frozen BK109.out 3
        have hfz22_4:=blk_frozen BK109.out 4
        have hfz22_5:=blk_frozen BK109.out 5
        have hfz22_6:=blk_frozen BK109.out 6
        go_wp2_with (first | ((with_reducible refine gate_callee (f:=67) rfl ?_); refine goesL_ (some 34) rfl rfl Tryz.func67 (by kernel_rfl) rfl #[.string a0_3] rfl (by (try simp only [List.map_toArray,List.map_cons,List.map_nil]); first | done | rfl | (simp only [List.length_drop,List.length_take]; rfl)) ?_; (with_reducible refine (lines_Token.calls kj7 a0_3 false _ A16.out).mono ?_); rintro e w' ⟨rfl,⟨nd,rfl⟩⟩; refine ⟨_,rfl,?_⟩))
        go_ret
        exact ⟨by first | rfl | (simp [errW_none,errW_some] <;> rfl) | (simp [*,errW_none,errW_some] <;> rfl),by repeat (first | (with_reducible first | exact HB.out | apply below_alloc | apply pw_below_drewN | apply below_drew1 | refine below_set ?_ GE109.out) | exact HB.out)⟩
      ·rw [if_neg c15] at H
       have c15b0 : (a0_0 == 8) = false:=beq_eq_false_iff_ne.mpr c15
       have c15b1 : (a0_0 != 8) = true:=bne_iff_ne.mpr c15
       by_cases c23 : a0_0 = 9
       ·rw [if_pos c23] at H
        have c23b0 : (a0_0 == 9) = true:=beq_iff_eq.mpr c23
        have c23b1 : (a0_0 != 9) = false:=bne_eq_false_iff_eq.mpr c23
        clear c23
        obtain rfl:=Option.some.inj H
        have hcz24_0 : wc.cell? ⟨gb109,0,none⟩ = some (.int .i64 a0_0):=(blk_cell BK109.out 0).trans rfl
        have hcz24_1 : wc.cell? ⟨gb109,1,none⟩ = some (.string a0_1):=(blk_cell BK109.out 1).trans rfl
        have hcz24_2 : wc.cell? ⟨gb109,2,none⟩ = some (.string a0_2):=(blk_cell BK109.out 2).trans rfl
        have hcz24_3 : wc.cell? ⟨gb109,3,none⟩ = some (.string a0_3):=(blk_cell BK109.out 3).trans rfl
        have hcz24_4 : wc.cell? ⟨gb109,4,none⟩ = some (.int .i64 a0_4):=(blk_cell BK109.out 4).trans rfl
        have hcz24_5 : wc.cell? ⟨gb109,5,none⟩ = some (.slice A0_5 l0_5.length c0_5):=(blk_cell BK109.out 5).trans rfl
        have hcz24_6 : wc.cell? ⟨gb109,6,none⟩ = some (.slice A0_6 l0_6.length c0_6):=(blk_cell BK109.out 6).trans rfl
        have hfz24_0:=blk_frozen BK109.out 0
        have hfz24_1:=blk_frozen BK109.out 1
        have hfz24_2:=blk_frozen BK109.out 2
        have hfz24_3:=blk_frozen BK109.out 3
        have hfz24_4:=blk_frozen BK109.out 4
        have hfz24_5:=blk_frozen BK109.out 5
        have hfz24_6:=blk_frozen BK109.out 6
        go_wp2
        go_ret
        exact ⟨by first | rfl | (simp [errW_none,errW_some] <;> rfl) | (simp [*,errW_none,errW_some] <;> rfl),by repeat (first | (with_reducible first | exact HB.out | apply below_alloc | apply pw_below_drewN | apply below_drew1 | refine below_set ?_ GE109.out) | exact HB.out)⟩
       ·rw [if_neg c23] at H
        have c23b0 : (a0_0 == 9) = false:=beq_eq_false_iff_ne.mpr c23
        have c23b1 : (a0_0 != 9) = true:=bne_iff_ne.mpr c23
        by_cases c25 : a0_3.toList = ([] : List UInt8)
        ·rw [if_pos c25] at H
         have c25b0 : (a0_3.toList == ([] : List UInt8)) = true:=beq_iff_eq.mpr c25
         have c25b1 : (a0_3.toList != ([] : List UInt8)) = false:=bne_eq_false_iff_eq.mpr c25
         clear c25
         by_cases c26 : a0_0 = 10
         ·rw [if_pos c26] at H
          have c26b0 : (a0_0 == 10) = true:=beq_iff_eq.mpr c26
          have c26b1 : (a0_0 != 10) = false:=bne_eq_false_iff_eq.mpr c26
          clear c26
          replace H:=Option.bind_eq_some_iff.mp H
          obtain ⟨t113,A270,H⟩:=H
          replace H : (if t113 = true then ((path_Apart.f a0_1 a0_2).bind fun t114 => (some t114)) else (some false)) = some r:=H
          have A27:=Aside0.mk A270
          clear A270
          by_cases c28 : t113 = true
          ·subst c28
           have H1 : ((path_Apart.f a0_1 a0_2).bind fun t114 => (some t114)) = some r:=by rw [if_pos rfl] at H; exact H
           clear H
           have H:=H1
           clear H1
           replace H:=Option.bind_eq_some_iff.mp H
           obtain ⟨t114,A290,H⟩:=H
           replace H : (some t114) = some r:=H
           have A29:=Aside0.mk A290
           clear A290
           obtain rfl:=Option.some.inj H
           have hcz30_0 : wc.cell? ⟨gb109,0,none⟩ = some (.int .i64 a0_0):=(blk_cell BK109.out 0).trans rfl
           have hcz30_1 : wc.cell? ⟨gb109,1,none⟩ = some (.string a0_1):=(blk_cell BK109.out 1).trans rfl
           have hcz30_2 : wc.cell? ⟨gb109,2,none⟩ = some (.string a0_2):=(blk_cell BK109.out 2).trans rfl
           have hcz30_3 : wc.cell? ⟨gb109,3,none⟩ = some (.string a0_3):=(blk_cell BK109.out 3).trans rfl
           have hcz30_4 : wc.cell? ⟨gb109,4,none⟩ = some (.int .i64 a0_4):=(blk_cell BK109.out 4).trans rfl
           have hcz30_5 : wc.cell? ⟨gb109,5,none⟩ = some (.slice A0_5 l0_5.length c0_5):=(blk_cell BK109.out 5).trans rfl
           have hcz30_6 : wc.cell? ⟨gb109,6,none⟩ = some (.slice A0_6 l0_6.length c0_6):=(blk_cell BK109.out 6).trans rfl
           have hfz30_0:=blk_frozen BK109.out 0
           have hfz30_1:=blk_frozen BK109.out 1
           have hfz30_2:=blk_frozen BK109.out 2
           have hfz30_3:=blk_frozen BK109.out 3
           have hfz30_4:=blk_frozen BK109.out 4
           have hfz30_5:=blk_frozen BK109.out 5
           have hfz30_6:=blk_frozen BK109.out 6
           go_wp2_with (first | ((with_reducible refine gate_callee (f:=66) rfl ?_); refine goesL_ (some 66) rfl rfl Tryz.func66 (by kernel_rfl) rfl #[.string a0_2] rfl (by (try simp only [List.map_toArray,List.map_cons,List.map_nil]); first | done | rfl | (simp only [List.length_drop,List.length_take]; rfl)) ?_; (with_reducible refine (path_Right.calls a0_2 true _ A27.out).mono ?_); rintro e w31 ⟨rfl,hb⟩; refine ⟨_,rfl,?_⟩; have n0_:=Aside0.mk (blk_below (g:=gb109) (o:=.cells #[.int .i64 a0_0,.string a0_1,.string a0_2,.string a0_3,.int .i64 a0_4,.slice A0_5 l0_5.length c0_5,.slice A0_6 l0_6.length c0_6] 25 (0,0)) (by (with_reducible repeat (first | refine blk_drewN ?_ _ | refine blk_drew ?_ | refine blk_alloc ?_ _)); exact BK109.out) hb); have n1_:=Aside0.mk (below_step (by repeat (first | (with_reducible first | exact HB.out | apply below_alloc | apply pw_below_drewN | apply below_drew1 | refine below_set ?_ GE109.out) | exact HB.out)) hb); clear BK109; clear HB; have BK109:=n0_; have HB:=n1_; clear n0_ n1_; (try clear hb); (try clear hb2); (try clear hk); (try clear hi); have hcz32_0 : w31.cell? ⟨gb109,0,none⟩ = some (.int .i64 a0_0):=(blk_cell BK109.out 0).trans rfl; have hcz32_1 : w31.cell? ⟨gb109,1,none⟩ = some (.string a0_1):=(blk_cell BK109.out 1).trans rfl; have hcz32_2 : w31.cell? ⟨gb109,2,none⟩ = some (.string a0_2):=(blk_cell BK109.out 2).trans rfl; have hcz32_3 : w31.cell? ⟨gb109,3,none⟩ = some (.string a0_3):=(blk_cell BK109.out 3).trans rfl; have hcz32_4 : w31.cell? ⟨gb109,4,none⟩ = some (.int .i64 a0_4):=(blk_cell BK109.out 4).trans rfl; have hcz32_5 : w31.cell? ⟨gb109,5,none⟩ = some (.slice A0_5 l0_5.length c0_5):=(blk_cell BK109.out 5).trans rfl; have hcz32_6 : w31.cell? ⟨gb109,6,none⟩ = some (.slice A0_6 l0_6.length c0_6):=(blk_cell BK109.out 6).trans rfl; have hfz32_0:=blk_frozen BK109.out 0; have hfz32_1:=blk_frozen BK109.out 1; have hfz32_2:=blk_frozen BK109.out 2; have hfz32_3:=blk_frozen BK109.out 3; have hfz32_4:=blk_frozen BK109.out 4; have hfz32_5:=blk_frozen BK109.out 5; have hfz32_6:=blk_frozen BK109.out 6) | (go_at_call 68; (with_reducible refine (path_Apart.calls a0_1 a0_2 t114 _ A29.out).mono ?_); rintro e w' ⟨rfl,⟨nd,rfl⟩⟩))
           go_ret
           exact ⟨by first | rfl | (simp [errW_none,errW_some] <;> rfl) | (simp [*,errW_none,errW_some] <;> rfl),by repeat (first | (with_reducible first | exact HB.out | apply below_alloc | apply pw_below_drewN | apply below_drew1 | refine below_set ?_ GE109.out) | exact HB.out)⟩
          ·replace c28:=Bool.eq_false_iff.mpr c28
           subst c28
           have H1 : (some false) = some r:=by rw [if_neg (show ¬ (false = true) by decide)] at H; exact H
           clear H
           have H:=H1
           clear H1
           obtain rfl:=Option.some.inj H
           have hcz33_0 : wc.cell? ⟨gb109,0,none⟩ = some (.int .i64 a0_0):=(blk_cell BK109.out 0).trans rfl
           have hcz33_1 : wc.cell? ⟨gb109,1,none⟩ = some (.string a0_1):=(blk_cell BK109.out 1).trans rfl
           have hcz33_2 : wc.cell? ⟨gb109,2,none⟩ = some (.string a0_2):=(blk_cell BK109.out 2).trans rfl
           have hcz33_3 : wc.cell? ⟨gb109,3,none⟩ = some (.string a0_3):=(blk_cell BK109.out 3).trans rfl
           have hcz33_4 : wc.cell? ⟨gb109,4,none⟩ = some (.int .i64 a0_4):=(blk_cell BK109.out 4).trans rfl
           have hcz33_5 : wc.cell? ⟨gb109,5,none⟩ = some (.slice A0_5 l0_5.length c0_5):=(blk_cell BK109.out 5).trans rfl
           have hcz33_6 : wc.cell? ⟨gb109,6,none⟩ = some (.slice A0_6 l0_6.length c0_6):=(blk_cell BK109.out 6).trans rfl
           have hfz33_0:=blk_frozen BK109.out 0
           have hfz33_1:=blk_frozen BK109.out 1
           have hfz33_2:=blk_frozen BK109.out 2
           have hfz33_3:=blk_frozen BK109.out 3
           have hfz33_4:=blk_frozen BK109.out 4
           have hfz33_5:=blk_frozen BK109.out 5
           have hfz33_6:=blk_frozen BK109.out 6
           go_wp2_with (first | ((with_reducible refine gate_callee (f:=66) rfl ?_); refine goesL_ (some 66) rfl rfl Tryz.func66 (by kernel_rfl) rfl #[.string a0_2] rfl (by (try simp only [List.map_toArray,List.map_cons,List.map_nil]); first | done | rfl | (simp only [List.length_drop,List.length_take]; rfl)) ?_; (with_reducible refine (path_Right.calls a0_2 false _ A27.out).mono ?_); rintro e w34 ⟨rfl,hb⟩; refine ⟨_,rfl,?_⟩; have n0_:=Aside0.mk (blk_below (g:=gb109) (o:=.cells #[.int .i64 a0_0,.string a0_1,.string a0_2,.string a0_3,.int .i64 a0_4,.slice A0_5 l0_5.length c0_5,.slice A0_6 l0_6.length c0_6] 25 (0,0)) (by (with_reducible repeat (first | refine blk_drewN ?_ _ | refine blk_drew ?_ | refine blk_alloc ?_ _)); exact BK109.out) hb); have n1_:=Aside0.mk (below_step (by repeat (first | (with_reducible first | exact HB.out | apply below_alloc | apply pw_below_drewN | apply below_drew1 | refine below_set ?_ GE109.out) | exact HB.out)) hb); clear BK109; clear HB; have BK109:=n0_; have HB:=n1_; clear n0_ n1_; (try clear hb); (try clear hb2); (try clear hk); (try clear hi)))
           go_ret
           exact ⟨by first | rfl | (simp [errW_none,errW_some] <;> rfl) | (simp [*,errW_none,errW_some] <;> rfl),by repeat (first | (with_reducible first | exact HB.out | apply below_alloc | apply pw_below_drewN | apply below_drew1 | refine below_set ?_ GE109.out) | exact HB.out)⟩
         ·rw [if_neg c26] at H
          have c26b0 : (a0_0 == 10) = false:=beq_eq_false_iff_ne.mpr c26
          have c26b1 : (a0_0 != 10) = true:=bne_iff_ne.mpr c26
          by_cases c35 : a0_0 = 7
          ·rw [if_pos c35] at H
           have c35b0 : (a0_0 == 7) = true:=beq_iff_eq.mpr c35
           have c35b1 : (a0_0 != 7) = false:=bne_eq_false_iff_eq.mpr c35
           clear c35
           by_cases c36 : a0_2.toList = ([] : List UInt8)
           ·rw [if_pos c36] at H
            have c36b0 : (a0_2.toList == ([] : List UInt8)) = true:=beq_iff_eq.mpr c36
            have c36b1 : (a0_2.toList != ([] : List UInt8)) = false:=bne_eq_false_iff_eq.mpr c36
            clear c36
            by_cases c37 : a0_4 ≥ 0
            ·rw [if_pos c37] at H
             have c37b0 : decide (0 ≤ a0_4) = true:=decide_eq_true c37
             clear c37
             by_cases c38 : a0_4 ≤ 1073741824
             ·rw [if_pos c38] at H
              have c38b0 : decide (a0_4 ≤ 1073741824) = true:=decide_eq_true c38
              clear c38
              replace H:=Option.bind_eq_some_iff.mp H
              obtain ⟨t115,A390,H⟩:=H
              replace H : (if t115 = true then ((lines_Right.f l0_6).bind fun t116 => (if t116 = true then (some (decide ((wrap64 ((l0_5.length : Int) + (l0_6.length : Int))) > 0))) else (some false))) else (some false)) = some r:=H
              have A39:=Aside0.mk A390
              clear A390
              by_cases c40 : t115 = true
              ·subst c40
               have H1 : ((lines_Right.f l0_6).bind fun t116 => (if t116 = true then (some (decide ((wrap64 ((l0_5.length : Int) + (l0_6.length : Int))) > 0))) else (some false))) = some r:=by rw [if_pos rfl] at H; exact H
               clear H
               have H:=H1
               clear H1
               replace H:=Option.bind_eq_some_iff.mp H
               obtain ⟨t116,A410,H⟩:=H
               replace H : (if t116 = true then (some (decide ((wrap64 ((l0_5.length : Int) + (l0_6.length : Int))) > 0))) else (some false)) = some r:=H
               have A41:=Aside0.mk A410
               clear A410
               by_cases c42 : t116 = true
               ·subst c42
                have H1 : (some (decide ((wrap64 ((l0_5.length : Int) + (l0_6.length : Int))) > 0))) = some r:=by rw [if_pos rfl] at H; exact H
                clear H
                have H:=H1
                clear H1
                obtain rfl:=Option.some.inj H
                have hcz43_0 : wc.cell? ⟨gb109,0,none⟩ = some (.int .i64 a0_0):=(blk_cell BK109.out 0).trans rfl
                have hcz43_1 : wc.cell? ⟨gb109,1,none⟩ = some (.string a0_1):=(blk_cell BK109.out 1).trans rfl
                have hcz43_2 : wc.cell? ⟨gb109,2,none⟩ = some (.string a0_2):=(blk_cell BK109.out 2).trans rfl
                have hcz43_3 : wc.cell? ⟨gb109,3,none⟩ = some (.string a0_3):=(blk_cell BK109.out 3).trans rfl
                have hcz43_4 : wc.cell? ⟨gb109,4,none⟩ = some (.int .i64 a0_4):=(blk_cell BK109.out 4).trans rfl
                have hcz43_5 : wc.cell? ⟨gb109,5,none⟩ = some (.slice A0_5 l0_5.length c0_5):=(blk_cell BK109.out 5).trans rfl
                have hcz43_6 : wc.cell? ⟨gb109,6,none⟩ = some (.slice A0_6 l0_6.length c0_6):=(blk_cell BK109.out 6).trans rfl
                have hfz43_0:=blk_frozen BK109.out 0
                have hfz43_1:=blk_frozen BK109.out 1
                have hfz43_2:=blk_frozen BK109.out 2
                have hfz43_3:=blk_frozen BK109.out 3
                have hfz43_4:=blk_frozen BK109.out 4
                have hfz43_5:=blk_frozen BK109.out 5
                have hfz43_6:=blk_frozen BK109.out 6
                go_wp2_with (first | (go_at_call 69; (with_reducible refine (lines_Right.calls _ _ l0_5 true _ ?side1 ?side2 A39.out).mono ?_); (case side1 => repeat (first | exact (Kd.C_below HR0_5.out HB.out) | (with_reducible refine Kd.C_alloc ?_ _) | (with_reducible refine Kd.C_drewN ?_ _) | (with_reducible refine Kd.C_drew ?_))); (case side2 => exact HC0_5.out); rintro e w' ⟨rfl,⟨nd,rfl⟩⟩) | (go_at_call 69; (with_reducible refine (lines_Right.calls _ _ l0_6 true _ ?side1 ?side2 A41.out).mono ?_); (case side1 => repeat (first | exact (Kd.C_below HR0_6.out (by repeat (first | (with_reducible first | exact HB.out | apply below_alloc | apply pw_below_drewN | apply below_drew1 | refine below_set ?_ GE109.out) | exact HB.out))) | (with_reducible refine Kd.C_alloc ?_ _) | (with_reducible refine Kd.C_drewN ?_ _) | (with_reducible refine Kd.C_drew ?_))); (case side2 => exact HC0_6.out); rintro e w' ⟨rfl,⟨nd,rfl⟩⟩))
                go_ret
                exact ⟨by first | rfl | (simp [errW_none,errW_some] <;> rfl) | (simp [*,errW_none,errW_some] <;> rfl),by repeat (first | (with_reducible first | exact HB.out | apply below_alloc | apply pw_below_drewN | apply below_drew1 | refine below_set ?_ GE109.out) | exact HB.out)⟩
               ·replace c42:=Bool.eq_false_iff.mpr c42
                subst c42
                have H1 : (some false) = some r:=by rw [if_neg (show ¬ (false = true) by decide)] at H; exact H
                clear H
                have H:=H1
                clear H1
                obtain rfl:=Option.some.inj H
                have hcz44_0 : wc.cell? ⟨gb109,0,none⟩ = some (.int .i64 a0_0):=(blk_cell BK109.out 0).trans rfl
                have hcz44_1 : wc.cell? ⟨gb109,1,none⟩ = some (.string a0_1):=(blk_cell BK109.out 1).trans rfl
                have hcz44_2 : wc.cell? ⟨gb109,2,none⟩ = some (.string a0_2):=(blk_cell BK109.out 2).trans rfl
                have hcz44_3 : wc.cell? ⟨gb109,3,none⟩ = some (.string a0_3):=(blk_cell BK109.out 3).trans rfl
                have hcz44_4 : wc.cell? ⟨gb109,4,none⟩ = some (.int .i64 a0_4):=(blk_cell BK109.out 4).trans rfl
                have hcz44_5 : wc.cell? ⟨gb109,5,none⟩ = some (.slice A0_5 l0_5.length c0_5):=(blk_cell BK109.out 5).trans rfl
                have hcz44_6 : wc.cell? ⟨gb109,6,none⟩ = some (.slice A0_6 l0_6.length c0_6):=(blk_cell BK109.out 6).trans rfl
                have hfz44_0:=blk_frozen BK109.out 0
                have hfz44_1:=blk_frozen BK109.out 1
                have hfz44_2:=blk_frozen BK109.out 2
                have hfz44_3:=blk_frozen BK109.out 3
                have hfz44_4:=blk_frozen BK109.out 4
                have hfz44_5:=blk_frozen BK109.out 5
                have hfz44_6:=blk_frozen BK109.out 6
                go_wp2_with (first | (go_at_call 69; (with_reducible refine (lines_Right.calls _ _ l0_5 true _ ?side1 ?side2 A39.out).mono ?_); (case side1 => repeat (first | exact (Kd.C_below HR0_5.out HB.out) | (with_reducible refine Kd.C_alloc ?_ _) | (with_reducible refine Kd.C_drewN ?_ _) | (with_reducible refine Kd.C_drew ?_))); (case side2 => exact HC0_5.out); rintro e w' ⟨rfl,⟨nd,rfl⟩⟩) | (go_at_call 69; (with_reducible refine (lines_Right.calls _ _ l0_6 false _ ?side1 ?side2 A41.out).mono ?_); (case side1 => repeat (first | exact (Kd.C_below HR0_6.out (by repeat (first | (with_reducible first | exact HB.out | apply below_alloc | apply pw_below_drewN | apply below_drew1 | refine below_set ?_ GE109.out) | exact HB.out))) | (with_reducible refine Kd.C_alloc ?_ _) | (with_reducible refine Kd.C_drewN ?_ _) | (with_reducible refine Kd.C_drew ?_))); (case side2 => exact HC0_6.out); rintro e w' ⟨rfl,⟨nd,rfl⟩⟩))
                go_ret
                exact ⟨by first | rfl | (simp [errW_none,errW_some] <;> rfl) | (simp [*,errW_none,errW_some] <;> rfl),by repeat (first | (with_reducible first | exact HB.out | apply below_alloc | apply pw_below_drewN | apply below_drew1 | refine below_set ?_ GE109.out) | exact HB.out)⟩
              ·replace c40:=Bool.eq_false_iff.mpr c40
               subst c40
               have H1 : (some false) = some r:=by rw [if_neg (show ¬ (false = true) by decide)] at H; exact H
               clear H
               have H:=H1
               clear H1
               obtain rfl:=Option.some.inj H
               have hcz45_0 : wc.cell? ⟨gb109,0,none⟩ = some (.int .i64 a0_0):=(blk_cell BK109.out 0).trans rfl
               have hcz45_1 : wc.cell? ⟨gb109,1,none⟩ = some (.string a0_1):=(blk_cell BK109.out 1).trans rfl
               have hcz45_2 : wc.cell? ⟨gb109,2,none⟩ = some (.string a0_2):=(blk_cell BK109.out 2).trans rfl
               have hcz45_3 : wc.cell? ⟨gb109,3,none⟩ = some (.string a0_3):=(blk_cell BK109.out 3).trans rfl
               have hcz45_4 : wc.cell? ⟨gb109,4,none⟩ = some (.int .i64 a0_4):=(blk_cell BK109.out 4).trans rfl
               have hcz45_5 : wc.cell? ⟨gb109,5,none⟩ = some (.slice A0_5 l0_5.length c0_5):=(blk_cell BK109.out 5).trans rfl
               have hcz45_6 : wc.cell? ⟨gb109,6,none⟩ = some (.slice A0_6 l0_6.length c0_6):=(blk_cell BK109.out 6).trans rfl
               have hfz45_0:=blk_frozen BK109.out 0
               have hfz45_1:=blk_frozen BK109.out 1
               have hfz45_2:=blk_frozen BK109.out 2
               have hfz45_3:=blk_frozen BK109.out 3
               have hfz45_4:=blk_frozen BK109.out 4
               have hfz45_5:=blk_frozen BK109.out 5
               have hfz45_6:=blk_frozen BK109.out 6
               go_wp2_with (first | (go_at_call 69; (with_reducible refine (lines_Right.calls _ _ l0_5 false _ ?side1 ?side2 A39.out).mono ?_); (case side1 => repeat (first | exact (Kd.C_below HR0_5.out HB.out) | (with_reducible refine Kd.C_alloc ?_ _) | (with_reducible refine Kd.C_drewN ?_ _) | (with_reducible refine Kd.C_drew ?_))); (case side2 => exact HC0_5.out); rintro e w' ⟨rfl,⟨nd,rfl⟩⟩))
               go_ret
               exact ⟨by first | rfl | (simp [errW_none,errW_some] <;> rfl) | (simp [*,errW_none,errW_some] <;> rfl),by repeat (first | (with_reducible first | exact HB.out | apply below_alloc | apply pw_below_drewN | apply below_drew1 | refine below_set ?_ GE109.out) | exact HB.out)⟩
             ·rw [if_neg c38] at H
              have c38b0 : decide (a0_4 ≤ 1073741824) = false:=decide_eq_false c38
              clear c38
              obtain rfl:=Option.some.inj H
              have hcz46_0 : wc.cell? ⟨gb109,0,none⟩ = some (.int .i64 a0_0):=(blk_cell BK109.out 0).trans rfl
              have hcz46_1 : wc.cell? ⟨gb109,1,none⟩ = some (.string a0_1):=(blk_cell BK109.out 1).trans rfl
              have hcz46_2 : wc.cell? ⟨gb109,2,none⟩ = some (.string a0_2):=(blk_cell BK109.out 2).trans rfl
              have hcz46_3 : wc.cell? ⟨gb109,3,none⟩ = some (.string a0_3):=(blk_cell BK109.out 3).trans rfl
              have hcz46_4 : wc.cell? ⟨gb109,4,none⟩ = some (.int .i64 a0_4):=(blk_cell BK109.out 4).trans rfl
              have hcz46_5 : wc.cell? ⟨gb109,5,none⟩ = some (.slice A0_5 l0_5.length c0_5):=(blk_cell BK109.out 5).trans rfl
              have hcz46_6 : wc.cell? ⟨gb109,6,none⟩ = some (.slice A0_6 l0_6.length c0_6):=(blk_cell BK109.out 6).trans rfl
              have hfz46_0:=blk_frozen BK109.out 0
              have hfz46_1:=blk_frozen BK109.out 1
              have hfz46_2:=blk_frozen BK109.out 2
              have hfz46_3:=blk_frozen BK109.out 3
              have hfz46_4:=blk_frozen BK109.out 4
              have hfz46_5:=blk_frozen BK109.out 5
              have hfz46_6:=blk_frozen BK109.out 6
              go_wp2
              go_ret
              exact ⟨by first | rfl | (simp [errW_none,errW_some] <;> rfl) | (simp [*,errW_none,errW_some] <;> rfl),by repeat (first | (with_reducible first | exact HB.out | apply below_alloc | apply pw_below_drewN | apply below_drew1 | refine below_set ?_ GE109.out) | exact HB.out)⟩
            ·rw [if_neg c37] at H
             have c37b0 : decide (0 ≤ a0_4) = false:=decide_eq_false c37
             clear c37
             obtain rfl:=Option.some.inj H
             have hcz47_0 : wc.cell? ⟨gb109,0,none⟩ = some (.int .i64 a0_0):=(blk_cell BK109.out 0).trans rfl
             have hcz47_1 : wc.cell? ⟨gb109,1,none⟩ = some (.string a0_1):=(blk_cell BK109.out 1).trans rfl
             have hcz47_2 : wc.cell? ⟨gb109,2,none⟩ = some (.string a0_2):=(blk_cell BK109.out 2).trans rfl
             have hcz47_3 : wc.cell? ⟨gb109,3,none⟩ = some (.string a0_3):=(blk_cell BK109.out 3).trans rfl
             have hcz47_4 : wc.cell? ⟨gb109,4,none⟩ = some (.int .i64 a0_4):=(blk_cell BK109.out 4).trans rfl
             have hcz47_5 : wc.cell? ⟨gb109,5,none⟩ = some (.slice A0_5 l0_5.length c0_5):=(blk_cell BK109.out 5).trans rfl
             have hcz47_6 : wc.cell? ⟨gb109,6,none⟩ = some (.slice A0_6 l0_6.length c0_6):=(blk_cell BK109.out 6).trans rfl
             have hfz47_0:=blk_frozen BK109.out 0
             have hfz47_1:=blk_frozen BK109.out 1
             have hfz47_2:=blk_frozen BK109.out 2
             have hfz47_3:=blk_frozen BK109.out 3
             have hfz47_4:=blk_frozen BK109.out 4
             have hfz47_5:=blk_frozen BK109.out 5
             have hfz47_6:=blk_frozen BK109.out 6
             go_wp2
             go_ret
             exact ⟨by first | rfl | (simp [errW_none,errW_some] <;> rfl) | (simp [*,errW_none,errW_some] <;> rfl),by repeat (first | (with_reducible first | exact HB.out | apply below_alloc | apply pw_below_drewN | apply below_drew1 | refine below_set ?_ GE109.out) | exact HB.out)⟩
           ·rw [if_neg c36] at H
            have c36b0 : (a0_2.toList == ([] : List UInt8)) = false:=beq_eq_false_iff_ne.mpr c36
            have c36b1 : (a0_2.toList != ([] : List UInt8)) = true:=bne_iff_ne.mpr c36
            obtain rfl:=Option.some.inj H
            have hcz48_0 : wc.cell? ⟨gb109,0,none⟩ = some (.int .i64 a0_0):=(blk_cell BK109.out 0).trans rfl
            have hcz48_1 : wc.cell? ⟨gb109,1,none⟩ = some (.string a0_1):=(blk_cell BK109.out 1).trans rfl
            have hcz48_2 : wc.cell? ⟨gb109,2,none⟩ = some (.string a0_2):=(blk_cell BK109.out 2).trans rfl
            have hcz48_3 : wc.cell? ⟨gb109,3,none⟩ = some (.string a0_3):=(blk_cell BK109.out 3).trans rfl
            have hcz48_4 : wc.cell? ⟨gb109,4,none⟩ = some (.int .i64 a0_4):=(blk_cell BK109.out 4).trans rfl
            have hcz48_5 : wc.cell? ⟨gb109,5,none⟩ = some (.slice A0_5 l0_5.length c0_5):=(blk_cell BK109.out 5).trans rfl
            have hcz48_6 : wc.cell? ⟨gb109,6,none⟩ = some (.slice A0_6 l0_6.length c0_6):=(blk_cell BK109.out 6).trans rfl
            have hfz48_0:=blk_frozen BK109.out 0
            have hfz48_1:=blk_frozen BK109.out 1
            have hfz48_2:=blk_frozen BK109.out 2
            have hfz48_3:=blk_frozen BK109.out 3
            have hfz48_4:=blk_frozen BK109.out 4
            have hfz48_5:=blk_frozen BK109.out 5
            have hfz48_6:=blk_frozen BK109.out 6
            go_wp2
            go_ret
            exact ⟨by first | rfl | (simp [errW_none,errW_some] <;> rfl) | (simp [*,errW_none,errW_some] <;> rfl),by repeat (first | (with_reducible first | exact HB.out | apply below_alloc | apply pw_below_drewN | apply below_drew1 | refine below_set ?_ GE109.out) | exact HB.out)⟩
          ·rw [if_neg c35] at H
           have c35b0 : (a0_0 == 7) = false:=beq_eq_false_iff_ne.mpr c35
           have c35b1 : (a0_0 != 7) = true:=bne_iff_ne.mpr c35
           by_cases c49 : a0_2.toList = ([] : List UInt8)
           ·rw [if_pos c49] at H
            have c49b0 : (a0_2.toList == ([] : List UInt8)) = true:=beq_iff_eq.mpr c49
            have c49b1 : (a0_2.toList != ([] : List UInt8)) = false:=bne_eq_false_iff_eq.mpr c49
            clear c49
            by_cases c50 : a0_0 ≥ 1
            ·rw [if_pos c50] at H
             have c50b0 : decide (1 ≤ a0_0) = true:=decide_eq_true c50
             clear c50
             obtain rfl:=Option.some.inj H
             have hcz51_0 : wc.cell? ⟨gb109,0,none⟩ = some (.int .i64 a0_0):=(blk_cell BK109.out 0).trans rfl
             have hcz51_1 : wc.cell? ⟨gb109,1,none⟩ = some (.string a0_1):=(blk_cell BK109.out 1).trans rfl
             have hcz51_2 : wc.cell? ⟨gb109,2,none⟩ = some (.string a0_2):=(blk_cell BK109.out 2).trans rfl
             have hcz51_3 : wc.cell? ⟨gb109,3,none⟩ = some (.string a0_3):=(blk_cell BK109.out 3).trans rfl
             have hcz51_4 : wc.cell? ⟨gb109,4,none⟩ = some (.int .i64 a0_4):=(blk_cell BK109.out 4).trans rfl
             have hcz51_5 : wc.cell? ⟨gb109,5,none⟩ = some (.slice A0_5 l0_5.length c0_5):=(blk_cell BK109.out 5).trans rfl
             have hcz51_6 : wc.cell? ⟨gb109,6,none⟩ = some (.slice A0_6 l0_6.length c0_6):=(blk_cell BK109.out 6).trans rfl
             have hfz51_0:=blk_frozen BK109.out 0
             have hfz51_1:=blk_frozen BK109.out 1
             have hfz51_2:=blk_frozen BK109.out 2
             have hfz51_3:=blk_frozen BK109.out 3
             have hfz51_4:=blk_frozen BK109.out 4
             have hfz51_5:=blk_frozen BK109.out 5
             have hfz51_6:=blk_frozen BK109.out 6
             go_wp2
             go_ret
             exact ⟨by first | rfl | (simp [errW_none,errW_some] <;> rfl) | (simp [*,errW_none,errW_some] <;> rfl),by repeat (first | (with_reducible first | exact HB.out | apply below_alloc | apply pw_below_drewN | apply below_drew1 | refine below_set ?_ GE109.out) | exact HB.out)⟩
            ·rw [if_neg c50] at H
             have c50b0 : decide (1 ≤ a0_0) = false:=decide_eq_false c50
             clear c50
             obtain rfl:=Option.some.inj H
             have hcz52_0 : wc.cell? ⟨gb109,0,none⟩ = some (.int .i64 a0_0):=(blk_cell BK109.out 0).trans rfl
             have hcz52_1 : wc.cell? ⟨gb109,1,none⟩ = some (.string a0_1):=(blk_cell BK109.out 1).trans rfl
             have hcz52_2 : wc.cell? ⟨gb109,2,none⟩ = some (.string a0_2):=(blk_cell BK109.out 2).trans rfl
             have hcz52_3 : wc.cell? ⟨gb109,3,none⟩ = some (.string a0_3):=(blk_cell BK109.out 3).trans rfl
             have hcz52_4 : wc.cell? ⟨gb109,4,none⟩ = some (.int .i64 a0_4):=(blk_cell BK109.out 4).trans rfl
             have hcz52_5 : wc.cell? ⟨gb109,5,none⟩ = some (.slice A0_5 l0_5.length c0_5):=(blk_cell BK109.out 5).trans rfl
             have hcz52_6 : wc.cell? ⟨gb109,6,none⟩ = some (.slice A0_6 l0_6.length c0_6):=(blk_cell BK109.out 6).trans rfl
             have hfz52_0:=blk_frozen BK109.out 0
             have hfz52_1:=blk_frozen BK109.out 1
             have hfz52_2:=blk_frozen BK109.out 2
             have hfz52_3:=blk_frozen BK109.out 3
             have hfz52_4:=blk_frozen BK109.out 4
             have hfz52_5:=blk_frozen BK109.out 5
             have hfz52_6:=blk_frozen BK109.out 6
             go_wp2
             go_ret
             exact ⟨by first | rfl | (simp [errW_none,errW_some] <;> rfl) | (simp [*,errW_none,errW_some] <;> rfl),by repeat (first | (with_reducible first | exact HB.out | apply below_alloc | apply pw_below_drewN | apply below_drew1 | refine below_set ?_ GE109.out) | exact HB.out)⟩
           ·rw [if_neg c49] at H
            have c49b0 : (a0_2.toList == ([] : List UInt8)) = false:=beq_eq_false_iff_ne.mpr c49
            have c49b1 : (a0_2.toList != ([] : List UInt8)) = true:=bne_iff_ne.mpr c49
            obtain rfl:=Option.some.inj H
            have hcz53_0 : wc.cell? ⟨gb109,0,none⟩ = some (.int .i64 a0_0):=(blk_cell BK109.out 0).trans rfl
            have hcz53_1 : wc.cell? ⟨gb109,1,none⟩ = some (.string a0_1):=(blk_cell BK109.out 1).trans rfl
            have hcz53_2 : wc.cell? ⟨gb109,2,none⟩ = some (.string a0_2):=(blk_cell BK109.out 2).trans rfl
            have hcz53_3 : wc.cell? ⟨gb109,3,none⟩ = some (.string a0_3):=(blk_cell BK109.out 3).trans rfl
            have hcz53_4 : wc.cell? ⟨gb109,4,none⟩ = some (.int .i64 a0_4):=(blk_cell BK109.out 4).trans rfl
            have hcz53_5 : wc.cell? ⟨gb109,5,none⟩ = some (.slice A0_5 l0_5.length c0_5):=(blk_cell BK109.out 5).trans rfl
            have hcz53_6 : wc.cell? ⟨gb109,6,none⟩ = some (.slice A0_6 l0_6.length c0_6):=(blk_cell BK109.out 6).trans rfl
            have hfz53_0:=blk_frozen BK109.out 0
            have hfz53_1:=blk_frozen BK109.out 1
            have hfz53_2:=blk_frozen BK109.out 2
            have hfz53_3:=blk_frozen BK109.out 3
            have hfz53_4:=blk_frozen BK109.out 4
            have hfz53_5:=blk_frozen BK109.out 5
            have hfz53_6:=blk_frozen BK109.out 6
            go_wp2
            go_ret
            exact ⟨by first | rfl | (simp [errW_none,errW_some] <;> rfl) | (simp [*,errW_none,errW_some] <;> rfl),by repeat (first | (with_reducible first | exact HB.out | apply below_alloc | apply pw_below_drewN | apply below_drew1 | refine below_set ?_ GE109.out) | exact HB.out)⟩
        ·rw [if_neg c25] at H
         have c25b0 : (a0_3.toList == ([] : List UInt8)) = false:=beq_eq_false_iff_ne.mpr c25
         have c25b1 : (a0_3.toList != ([] : List UInt8)) = true:=bne_iff_ne.mpr c25
         obtain rfl:=Option.some.inj H
         have hcz54_0 : wc.cell? ⟨gb109,0,none⟩ = some (.int .i64 a0_0):=(blk_cell BK109.out 0).trans rfl
         have hcz54_1 : wc.cell? ⟨gb109,1,none⟩ = some (.string a0_1):=(blk_cell BK109.out 1).trans rfl
         have hcz54_2 : wc.cell? ⟨gb109,2,none⟩ = some (.string a0_2):=(blk_cell BK109.out 2).trans rfl
         have hcz54_3 : wc.cell? ⟨gb109,3,none⟩ = some (.string a0_3):=(blk_cell BK109.out 3).trans rfl
         have hcz54_4 : wc.cell? ⟨gb109,4,none⟩ = some (.int .i64 a0_4):=(blk_cell BK109.out 4).trans rfl
         have hcz54_5 : wc.cell? ⟨gb109,5,none⟩ = some (.slice A0_5 l0_5.length c0_5):=(blk_cell BK109.out 5).trans rfl
         have hcz54_6 : wc.cell? ⟨gb109,6,none⟩ = some (.slice A0_6 l0_6.length c0_6):=(blk_cell BK109.out 6).trans rfl
         have hfz54_0:=blk_frozen BK109.out 0
         have hfz54_1:=blk_frozen BK109.out 1
         have hfz54_2:=blk_frozen BK109.out 2
         have hfz54_3:=blk_frozen BK109.out 3
         have hfz54_4:=blk_frozen BK109.out 4
         have hfz54_5:=blk_frozen BK109.out 5
         have hfz54_6:=blk_frozen BK109.out 6
         go_wp2
         go_ret
         exact ⟨by first | rfl | (simp [errW_none,errW_some] <;> rfl) | (simp [*,errW_none,errW_some] <;> rfl),by repeat (first | (with_reducible first | exact HB.out | apply below_alloc | apply pw_below_drewN | apply below_drew1 | refine below_set ?_ GE109.out) | exact HB.out)⟩

end Go.Proofs.YthhohbidjhcjeaaGreatDoor.Q
namespace Go.Proofs.YthhohbidjhcjeaaGreatDoor.H
open Go.RowKit Go.Proofs.YthhohbidjhcjeaaGreatDoorW.PrintWords Go.Proofs.YthhohbidjhcjeaaGreatDoorW.PrintLast Go.Proofs.YthhohbidjhcjeaaGreatDoorW.PrintMore
open Go.Proofs.YthhohbidjhcjeaaGreatDoor.Q
def opp (k : Int) : Int:=if k % 2 = 1 then k + 1 else k - 1
def invS (p : S25) : S25 :=
 if p.f0 < 1 ∨ 10 < p.f0 then z25
 else if p.f0 = 7 then ⟨7,p.f1,p.f2,p.f3,p.f4,p.f6,p.f5⟩
 else if p.f0 = 8 then ⟨8,p.f1,p.f3,p.f2,p.f4,p.f5,p.f6⟩
 else if p.f0 = 9 then ⟨9,p.f1,p.f3,p.f2,p.f4,p.f5,p.f6⟩
 else if p.f0 = 10 then ⟨10,p.f2,p.f1,p.f3,p.f4,p.f5,p.f6⟩
 else ⟨opp p.f0,p.f1,p.f2,p.f3,p.f4,p.f5,p.f6⟩

end Go.Proofs.YthhohbidjhcjeaaGreatDoor.H
namespace Go.Proofs.YthhohbidjhcjeaaGreatDoor.Q
open Go.RowKit Go.Proofs.YthhohbidjhcjeaaGreatDoorW.PrintWords Go.Proofs.YthhohbidjhcjeaaGreatDoorW.PrintLast Go.Proofs.YthhohbidjhcjeaaGreatDoorW.PrintMore
open Go.Proofs.YthhohbidjhcjeaaGreatDoor.H
end Go.Proofs.YthhohbidjhcjeaaGreatDoor.Q
namespace Go.Proofs.YthhohbidjhcjeaaGreatDoor.Pl
open Go.RowKit Go.Proofs.YthhohbidjhcjeaaGreatDoorW.PrintWords Go.Proofs.YthhohbidjhcjeaaGreatDoorW.PrintMore Go.Proofs.YthhohbidjhcjeaaGreatDoor.Q
theorem toList_inj {a b : ByteArray} (h : a.toList = b.toList) : a = b:=by
 rw [Go.ByteArray.toList_eq,Go.ByteArray.toList_eq] at h
 obtain ⟨⟨a⟩⟩:=a
 obtain ⟨⟨b⟩⟩:=b
 simp at h
 rw [h]
theorem wrap_id {i : Int} (h0 : -9223372036854775808 ≤ i) (h : i ≤ 9223372036854775807) : wrap64 i = i:=by
 unfold wrap64
 omega
theorem wrap_1 {i n : Nat} (h : i < n) (hn : n ≤ 140737488355328) : wrap64 ((i : Int) + 1) = ((i + 1 : Nat) : Int):=by
 unfold wrap64
 omega
theorem mn_le (a b : Int) : mn a b ≤ b:=by unfold mn; split <;> omega
theorem mn_nn {a b : Int} (ha : 0 ≤ a) (hb : 0 ≤ b) : 0 ≤ mn a b:=by unfold mn; split <;> omega
theorem rdOf_get {α : Type} (d : α) (xs : List α) {i : Nat} (h : i < xs.length) : rdOf d xs (i : Int) = xs[i]:=by
 simp [rdOf,List.getD_eq_getElem?_getD,h]
def Ok24 (x : S25) : Prop:=x.f5.length ≤ 140737488355328 ∧ x.f6.length ≤ 140737488355328
open Go.RowKit Go.Proofs.YthhohbidjhcjeaaGreatDoorW.PrintWords Go.Proofs.YthhohbidjhcjeaaGreatDoorW.PrintMore Go.Proofs.YthhohbidjhcjeaaGreatDoor.Q Go.Proofs.YthhohbidjhcjeaaGreatDoor.H
structure Okp (x : S25) : Prop where
 ok : Ok24 x
 s1 : x.f1.size ≤ 140737488355328
 s2 : x.f2.size ≤ 140737488355328
 s3 : x.f3.size ≤ 140737488355328
theorem size_toList (a : ByteArray) : a.toList.length = a.size:=by rw [Go.ByteArray.toList_eq]; rfl
def withinB (a b : ByteArray) : Bool:=if (a.extract 0 b.size).toList = b.toList ∧ b.size ≤ a.size then (if (a.extract b.size a.size).toList = [] then true else bt (a.extract b.size a.size) 0 == 47) else false
theorem within_f (a b : ByteArray) : path_Within.f a b = some (withinB a b):=by
 unfold path_Within.f strings_CutPrefix.f stringslite_CutPrefix.f stringslite_HasPrefix.f withinB
 by_cases h : b.size ≤ a.size
 ·have h1 : (a.size : Int) ≥ (b.size : Int):=by omega
  have h2 : (b.size : Int) ≤ (a.size : Int):=h1
  have h3 : (0 : Int) ≤ (b.size : Int):=by omega
  by_cases he : (a.extract 0 b.size).toList = b.toList
  ·have he' : ((a.extract 0 b.size).toList == b.toList) = true:=by simpa using he
   simp only [if_pos h1,if_pos h3,Int.toNat_natCast,Option.bind_some,he',if_true,if_pos (And.intro he h)]
   by_cases hz : (a.extract b.size a.size).toList = []
   ·simp only [hz,if_true]
   ·have hp : (0 : Int) < ((a.extract b.size a.size).size : Int):=by
     have:=size_toList (a.extract b.size a.size)
     have : (a.extract b.size a.size).toList.length ≠ 0:=fun e => hz (List.length_eq_zero_iff.1 e)
     omega
    simp only [hz,if_false,if_pos hp]
  ·have he' : ((a.extract 0 b.size).toList == b.toList) = false:=by simpa using he
   have hn : ¬ ((a.extract 0 b.size).toList = b.toList ∧ b.size ≤ a.size):=fun e => he e.1
   simp only [if_pos h1,if_pos h3,Int.toNat_natCast,Option.bind_some,he',Bool.false_eq_true,if_false,if_neg hn]
 ·have h1 : ¬ (a.size : Int) ≥ (b.size : Int):=by omega
  have hn : ¬ ((a.extract 0 b.size).toList = b.toList ∧ b.size ≤ a.size):=fun e => h e.2
  simp only [if_neg h1,Option.bind_some,Bool.false_eq_true,if_false,if_neg hn]
def apartB (a b : ByteArray) : Bool:=if withinB a b = true then false else !withinB b a
theorem apart_f (a b : ByteArray) : path_Apart.f a b = some (apartB a b):=by
 unfold path_Apart.f apartB
 rw [within_f,within_f]
 cases withinB a b <;> rfl
def inB (c : Int) : Bool:=(lines_in.f c).getD false
theorem in_f (c : Int) : lines_in.f c = some (inB c):=by
 have : ∃ r,lines_in.f c = some r:=by
  unfold lines_in.f
  repeat' split
  all_goals exact ⟨_,rfl⟩
 obtain ⟨r,hr⟩:=this
 rw [inB,hr]
 rfl
def tokenB (s : ByteArray) : Bool:=s.data.toList.all (fun b => inB (b.toNat : Int)) && (s.toList != ([] : List UInt8))
theorem token_l (s : ByteArray) (hn : s.size ≤ 140737488355328) : ∀ (d i : Nat),i + d = s.size → Ev (fun k => lines_Token.l0 k s (s.size : Int) (i : Int)) ((s.data.toList.drop i).all (fun b => inB (b.toNat : Int)) && (s.toList != ([] : List UInt8))):=by
 have hsl : s.data.toList.length = s.size:=by rw [Array.length_toList]; rfl
 intro d
 induction d with
 | zero =>
  intro i hi
  refine Ev.step (f:=fun _ => some (s.toList != ([] : List UInt8))) (fun k => ?_) ?_
  ·simp only [lines_Token.l0]
   rw [if_neg (by omega)]
  ·rw [List.drop_of_length_le (by omega)]
   simpa using Ev.now _
 | succ d ih =>
  intro i hi
  have h1 : i < s.data.toList.length:=by omega
  have h2 : i < s.size:=by omega
  have ed : s.data.toList.drop i = s.data.toList[i] :: s.data.toList.drop (i + 1):=List.drop_eq_getElem_cons h1
  have eb : bt s (i : Int) = (s.data.toList[i].toNat : Int):=by
   have:=bt_at s (i : Int) (by rw [Int.toNat_natCast]; exact h2)
   rw [← this]
   simp only [Int.toNat_natCast]
   rfl
  have key:=ih (i + 1) (by omega)
  rw [ed,List.all_cons]
  cases hb : inB (s.data.toList[i].toNat : Int) with
  | true =>
   rw [Bool.true_and]
   refine Ev.step (f:=fun k => lines_Token.l0 k s (s.size : Int) ((i + 1 : Nat) : Int)) (fun k => ?_) key
   simp only [lines_Token.l0]
   rw [if_pos (by omega),if_pos (by omega),if_pos (by omega),eb,in_f,hb,Option.bind_some,if_pos rfl,wrap_1 h2 hn]
  | false =>
   rw [Bool.false_and,Bool.false_and]
   refine Ev.step (f:=fun _ => some false) (fun k => ?_) (Ev.now _)
   simp only [lines_Token.l0]
   rw [if_pos (by omega),if_pos (by omega),if_pos (by omega),eb,in_f,hb,Option.bind_some,if_neg (by simp)]
theorem token (s : ByteArray) (hn : s.size ≤ 140737488355328) : Ev (fun k => lines_Token.f k s) (tokenB s):=by
 have h:=token_l s hn s.size 0 (by omega)
 rw [List.drop_zero] at h
 exact h

def listedB (x : S25) : Bool:=decide (0 < x.f5.length + x.f6.length) || x.f4 != 0
def kindB (x : S25) : Bool :=
 if x.f0 = 8 then tokenB x.f3 && tokenB x.f2 && (x.f3.toList != x.f2.toList)
 else if x.f0 = 9 then (x.f3.toList != x.f2.toList)
 else if x.f3.toList = ([] : List UInt8) then
  if x.f0 = 10 then rightB x.f2 && apartB x.f1 x.f2
  else if x.f0 = 7 then decide (x.f2.toList = ([] : List UInt8)) && decide (x.f4 ≥ 0) && decide (x.f4 ≤ 1073741824) && linesB x.f5 && linesB x.f6 && decide (0 < x.f5.length + x.f6.length)
  else decide (x.f2.toList = ([] : List UInt8)) && decide (x.f0 ≥ 1) && decide (x.f0 ≤ 6)
 else false
def primB (x : S25) : Bool:=rightB x.f1 && !(listedB x && x.f0 != 7) && kindB x
theorem path_f (s : ByteArray) (h : s.size ≤ 140737488355328) : path_Right.f s = some (rightB s):=if_pos h
theorem kind_j (x : S25) (hx : Okp x) : Ev (fun k => prim_Right.j1 k false x.f0 x.f1 x.f2 x.f3 x.f4 x.f5 x.f6) (kindB x):=by
 have p2:=path_f x.f2 hx.s2
 have t3:=token x.f3 hx.s3
 have t2:=token x.f2 hx.s2
 have k5:=hx.ok.1
 have k6:=hx.ok.2
 unfold kindB
 by_cases h8 : x.f0 = 8
 ·rw [if_pos h8]
  refine Ev.step (f:=fun k => (lines_Token.f k x.f3).bind fun t => if t = true then (lines_Token.f k x.f2).bind fun u => if u = true then some (x.f3.toList != x.f2.toList) else some false else some false) (fun k => ?_) ?_
  ·simp only [prim_Right.j1,if_pos h8,Bool.false_eq_true,if_false]
  ·cases h3 : tokenB x.f3 with
   | false =>
    rw [h3] at t3
    exact Ev.bind t3 (Ev.now _)
   | true =>
    rw [h3] at t3
    refine Ev.bind t3 ?_
    cases h2 : tokenB x.f2 with
    | false =>
     rw [h2] at t2
     exact Ev.bind t2 (Ev.now _)
    | true =>
     rw [h2] at t2
     exact Ev.bind t2 (Ev.now _)
 ·rw [if_neg h8]
  refine Ev.step (f:=fun _ => some _) (fun k => ?_) (Ev.now _)
  simp only [prim_Right.j1,if_neg h8,Bool.false_eq_true,if_false]
  by_cases h9 : x.f0 = 9
  ·rw [if_pos h9,if_pos h9]
  ·rw [if_neg h9,if_neg h9]
   by_cases h3 : x.f3.toList = ([] : List UInt8)
   ·rw [if_pos h3,if_pos h3]
    by_cases h10 : x.f0 = 10
    ·rw [if_pos h10,if_pos h10,p2,Option.bind_some,apart_f]
     cases rightB x.f2 <;> rfl
    ·rw [if_neg h10,if_neg h10]
     by_cases h7 : x.f0 = 7
     ·rw [if_pos h7,if_pos h7,wrap_id (by omega) (by omega)]
      have e : decide ((x.f5.length : Int) + (x.f6.length : Int) > 0) = decide (0 < x.f5.length + x.f6.length):=decide_eq_decide.2 (by omega)
      rw [e]
      by_cases h2 : x.f2.toList = ([] : List UInt8) <;> by_cases ha : x.f4 ≥ 0 <;> by_cases hb : x.f4 ≤ 1073741824 <;> cases h5 : linesB x.f5 <;> cases h6 : linesB x.f6 <;> simp [h2,ha,hb,h5,h6,lines_Right.f]
     ·rw [if_neg h7,if_neg h7]
      by_cases h2 : x.f2.toList = ([] : List UInt8) <;> by_cases ha : x.f0 ≥ 1 <;> simp [h2,ha]
   ·rw [if_neg h3,if_neg h3]
theorem prim_right (x : S25) (hx : Okp x) : Ev (fun k => prim_Right.f k x.f0 x.f1 x.f2 x.f3 x.f4 x.f5 x.f6) (primB x):=by
 have p1:=path_f x.f1 hx.s1
 have kj:=kind_j x hx
 have k5:=hx.ok.1
 have k6:=hx.ok.2
 have yes : Ev (fun k => prim_Right.j1 k true x.f0 x.f1 x.f2 x.f3 x.f4 x.f5 x.f6) false:=Ev.step (f:=fun _ => some false) (fun k => by simp only [prim_Right.j1,if_true]) (Ev.now _)
 have j0 : ∀ b : Bool,Ev (fun k => prim_Right.j0 k b x.f0 x.f1 x.f2 x.f3 x.f4 x.f5 x.f6) (rightB x.f1 && !(b && x.f0 != 7) && kindB x):=by
  intro b
  cases hr : rightB x.f1 with
  | false =>
   refine Ev.step (f:=fun k => prim_Right.j1 k true x.f0 x.f1 x.f2 x.f3 x.f4 x.f5 x.f6) (fun k => ?_) yes
   simp only [prim_Right.j0,p1,hr,Option.bind_some,Bool.false_eq_true,if_false,Bool.not_false]
  | true =>
   cases b with
   | false =>
    refine Ev.step (f:=fun k => prim_Right.j1 k false x.f0 x.f1 x.f2 x.f3 x.f4 x.f5 x.f6) (fun k => ?_) (by simpa using kj)
    simp only [prim_Right.j0,p1,hr,Option.bind_some,Bool.false_eq_true,if_false,if_true]
   | true =>
    cases h7 : (x.f0 != 7) with
    | false =>
     refine Ev.step (f:=fun k => prim_Right.j1 k false x.f0 x.f1 x.f2 x.f3 x.f4 x.f5 x.f6) (fun k => ?_) (by simpa using kj)
     simp only [prim_Right.j0,p1,hr,h7,Option.bind_some,if_true]
    | true =>
     refine Ev.step (f:=fun k => prim_Right.j1 k true x.f0 x.f1 x.f2 x.f3 x.f4 x.f5 x.f6) (fun k => ?_) (by simpa using yes)
     simp only [prim_Right.j0,p1,hr,h7,Option.bind_some,if_true]
 unfold prim_Right.f primB listedB
 by_cases h : 0 < x.f5.length + x.f6.length
 ·have hw : wrap64 ((x.f5.length : Int) + (x.f6.length : Int)) > 0:=by rw [wrap_id (by omega) (by omega)]; omega
  have:=j0 true
  refine Ev.congr (fun k => if_pos hw) ?_
  rw [decide_eq_true h,Bool.true_or]
  exact this
 ·have hw : ¬ wrap64 ((x.f5.length : Int) + (x.f6.length : Int)) > 0:=by rw [wrap_id (by omega) (by omega)]; omega
  refine Ev.congr (fun k => if_neg hw) ?_
  rw [decide_eq_false h,Bool.false_or]
  exact j0 (x.f4 != 0)
theorem dlen (s : ByteArray) : s.data.toList.length = s.size:=by rw [Array.length_toList]; rfl
theorem bt_get (s : ByteArray) (i : Nat) (h : i < s.size) : bt s (i : Int) = ((s.data.toList[i]'(by rw [dlen]; exact h)).toNat : Int):=by
 have:=bt_at s (i : Int) (by rw [Int.toNat_natCast]; exact h)
 rw [← this]
 simp only [Int.toNat_natCast]
 rfl
theorem data_inj {a b : ByteArray} (h : a.data.toList = b.data.toList) : a = b:=by
 obtain ⟨⟨a⟩⟩:=a
 obtain ⟨⟨b⟩⟩:=b
 simpa using h
theorem toList_data (a : ByteArray) : a.toList = a.data.toList:=by rw [Go.ByteArray.toList_eq]
theorem extract_data (s : ByteArray) (i j : Nat) : (s.extract i j).data.toList = (s.data.toList.take j).drop i:=by
 simp only [ByteArray.data_extract,Array.toList_extract,List.extract_eq_take_drop]
 rw [List.take_drop]
 by_cases h : i ≤ j
 ·rw [show i + (j - i) = j by omega]
 ·rw [List.drop_eq_nil_of_le (by simp; omega),List.drop_eq_nil_of_le (by simp; omega)]

structure Okq (x : S25) : Prop where
 ok : Okp x
 l5 : ∀ s ∈ x.f5,s.size ≤ 140737488355328
 l6 : ∀ s ∈ x.f6,s.size ≤ 140737488355328
theorem primB_lo {x : S25} (h : primB x = true) : 1 ≤ x.f0 ∧ x.f0 ≤ 10:=by
 unfold primB kindB at h
 simp only [Bool.and_eq_true] at h
 obtain ⟨_,hk⟩:=h
 by_cases h8 : x.f0 = 8
 ·omega
 ·rw [if_neg h8] at hk
  by_cases h9 : x.f0 = 9
  ·omega
  ·rw [if_neg h9] at hk
   by_cases h3 : x.f3.toList = ([] : List UInt8)
   ·rw [if_pos h3] at hk
    by_cases h10 : x.f0 = 10
    ·omega
    ·rw [if_neg h10] at hk
     by_cases h7 : x.f0 = 7
     ·omega
     ·rw [if_neg h7] at hk
      simp only [Bool.and_eq_true,decide_eq_true_eq] at hk
      omega
   ·rw [if_neg h3] at hk
    cases hk
theorem rd_T41_get (xs : List S41) {i : Nat} (h : i < xs.length) : rd_T41 xs (i : Int) = xs[i]:=by
 simp [rd_T41,List.getD_eq_getElem?_getD,h]
structure Small (x : S41) : Prop where
 p : x.f0.size < 4000
 b : x.f3.size < 4000
 n : x.f2.length < 4000
 s : ∀ t ∈ x.f2,t.size < 4000
theorem mn_lt {a : Int} (h : mn a 4000 < 4000) : a < 4000:=by
 unfold mn at h
 split at h <;> omega
theorem great7_l1 (l : List S41) (i : Nat) (hi : i < l.length) (hn : l.length ≤ 140737488355328) (hx : l[i].f2.length ≤ 140737488355328)
  (hnext : ∀ n : Int,0 ≤ n → n ≤ 1000000000000000 → ∃ r,Ev (fun k => counterpanelaw07_Great.l0 k l n ((i + 1 : Nat) : Int)) r ∧ (r = false → n < 4000 ∧ ∀ x ∈ l.drop (i + 1),Small x)) :
  ∀ (d j : Nat) (n : Int),j + d = l[i].f2.length → 0 ≤ n → n ≤ 1000000000000000 → ∃ r,Ev (fun k => counterpanelaw07_Great.l1 k l n (i : Int) (j : Int)) r ∧ (r = false → n < 4000 ∧ (∀ t ∈ l[i].f2.drop j,t.size < 4000) ∧ ∀ x ∈ l.drop (i + 1),Small x):=by
 intro d
 induction d with
 | zero =>
  intro j n hj h0 hm
  obtain ⟨r,hr,h⟩:=hnext n h0 hm
  refine ⟨r,Ev.step (f:=fun k => counterpanelaw07_Great.l0 k l n ((i + 1 : Nat) : Int)) (fun k => ?_) hr,fun hf => ⟨(h hf).1,?_,(h hf).2⟩⟩
  ·simp only [counterpanelaw07_Great.l1]
   rw [if_pos (by omega),if_pos (by omega),rd_T41_get _ hi,if_neg (by omega),wrap_1 hi hn]
  ·rw [List.drop_of_length_le (by omega)]
   intro t ht
   cases ht
 | succ d ih =>
  intro j n hj h0 hm
  have hjl : j < l[i].f2.length:=by omega
  by_cases hlt : n < 4000
  ·have hb:=mn_le (l[i].f2[j].size : Int) 4000
   have hb0:=mn_nn (a:=(l[i].f2[j].size : Int)) (b:=4000) (by omega) (by omega)
   obtain ⟨r,hr,h⟩:=ih (j + 1) (n + mn (l[i].f2[j].size : Int) 4000) (by omega) (by omega) (by omega)
   refine ⟨r,Ev.step (f:=fun k => counterpanelaw07_Great.l1 k l (n + mn (l[i].f2[j].size : Int) 4000) (i : Int) ((j + 1 : Nat) : Int)) (fun k => ?_) hr,fun hf => ⟨hlt,?_,(h hf).2.2⟩⟩
   ·simp only [counterpanelaw07_Great.l1]
    rw [if_pos (by omega),if_pos (by omega),rd_T41_get _ hi,if_pos (by omega),if_pos hlt,if_pos (by omega),rdOf_get _ _ hjl,wrap_1 hjl hx,wrap_id (by omega) (by omega)]
   ·rw [List.drop_eq_getElem_cons hjl]
    intro t ht
    rcases List.mem_cons.1 ht with ht | ht
    ·subst ht
     have:=(h hf).1
     have:=mn_lt (a:=(l[i].f2[j].size : Int)) (by omega)
     omega
    ·exact (h hf).2.1 t ht
  ·obtain ⟨r,hr,h⟩:=hnext n h0 hm
   refine ⟨r,Ev.step (f:=fun k => counterpanelaw07_Great.l0 k l n ((i + 1 : Nat) : Int)) (fun k => ?_) hr,fun hf => absurd (h hf).1 hlt⟩
   simp only [counterpanelaw07_Great.l1]
   rw [if_pos (by omega),if_pos (by omega),rd_T41_get _ hi,if_pos (by omega),if_neg hlt,wrap_1 hi hn]
theorem great7_l0 (l : List S41) (hn : l.length ≤ 140737488355328) (hx : ∀ x ∈ l,x.f2.length ≤ 140737488355328) :
  ∀ (d i : Nat) (n : Int),i + d = l.length → 0 ≤ n → n ≤ 1000000000000000 → ∃ r,Ev (fun k => counterpanelaw07_Great.l0 k l n (i : Int)) r ∧ (r = false → n < 4000 ∧ ∀ x ∈ l.drop i,Small x):=by
 have hfin : ∀ (i n : Int),∃ r,Ev (fun k => counterpanelaw07_Great.j1 k l n i false) r ∧ (r = false → n < 4000):=fun i n =>
  ⟨decide (n ≥ 4000),Ev.step (f:=fun _ => some (decide (n ≥ 4000))) (fun k => by simp only [counterpanelaw07_Great.j1]; rw [if_neg (by decide)]) (Ev.now _),fun h => by simpa using h⟩
 intro d
 induction d with
 | zero =>
  intro i n hi h0 hm
  obtain ⟨r,hr,h⟩:=hfin i n
  refine ⟨r,Ev.step (f:=fun k => counterpanelaw07_Great.j1 k l n (i : Int) false) (fun k => ?_) hr,fun hf => ⟨h hf,?_⟩⟩
  ·simp only [counterpanelaw07_Great.l0]
   rw [if_neg (by omega)]
  ·rw [List.drop_of_length_le (by omega)]
   intro t ht
   cases ht
 | succ d ih =>
  intro i n hi h0 hm
  have hil : i < l.length:=by omega
  have hxl:=hx _ (List.getElem_mem hil)
  by_cases hlt : n < 4000
  ·have a1:=mn_le (l[i].f3.size : Int) 4000
   have a2:=mn_nn (a:=(l[i].f3.size : Int)) (b:=4000) (by omega) (by omega)
   have a3:=mn_le (l[i].f0.size : Int) 4000
   have a4:=mn_nn (a:=(l[i].f0.size : Int)) (b:=4000) (by omega) (by omega)
   obtain ⟨r,hr,h⟩:=great7_l1 l i hil hn hxl (fun m q0 q1 => ih (i + 1) m (by omega) q0 q1) l[i].f2.length 0 (n + (l[i].f2.length : Int) + mn (l[i].f3.size : Int) 4000 + mn (l[i].f0.size : Int) 4000) (by omega) (by omega) (by omega)
   refine ⟨r,Ev.step (f:=fun k => counterpanelaw07_Great.j1 k l n (i : Int) true) (fun k => ?_) (Ev.step (f:=fun k => counterpanelaw07_Great.l1 k l (n + (l[i].f2.length : Int) + mn (l[i].f3.size : Int) 4000 + mn (l[i].f0.size : Int) 4000) (i : Int) ((0 : Nat) : Int)) (fun k => ?_) hr),fun hf => ⟨hlt,?_⟩⟩
   ·simp only [counterpanelaw07_Great.l0]
    rw [if_pos (by omega),decide_eq_true hlt]
   ·simp only [counterpanelaw07_Great.j1]
    rw [if_pos trivial,if_pos (by omega),if_pos (by omega),rd_T41_get _ hil,wrap_id (i:=n + (l[i].f2.length : Int)) (by omega) (by omega),wrap_id (i:=n + (l[i].f2.length : Int) + mn (l[i].f3.size : Int) 4000) (by omega) (by omega),wrap_id (by omega) (by omega)]
    rfl
   ·have hq:=(h hf).1
    rw [List.drop_eq_getElem_cons hil]
    intro x hxm
    rcases List.mem_cons.1 hxm with hxe | hxm
    ·subst hxe
     have b1:=mn_lt (a:=(l[i].f0.size : Int)) (by omega)
     have b2:=mn_lt (a:=(l[i].f3.size : Int)) (by omega)
     exact ⟨by omega,by omega,by omega,by simpa using (h hf).2.1⟩
    ·exact (h hf).2.2 x hxm
  ·obtain ⟨r,hr,h⟩:=hfin i n
   refine ⟨r,Ev.step (f:=fun k => counterpanelaw07_Great.j1 k l n (i : Int) false) (fun k => ?_) hr,fun hf => absurd (h hf) hlt⟩
   simp only [counterpanelaw07_Great.l0]
   rw [if_pos (by omega),decide_eq_false hlt]
theorem great7 (l : List S41) (hn : l.length ≤ 140737488355328) (hx : ∀ x ∈ l,x.f2.length ≤ 140737488355328) :
  ∃ r,Ev (fun k => counterpanelaw07_Great.f k l) r ∧ (r = false → l.length < 800 ∧ ∀ x ∈ l,Small x):=by
 obtain ⟨r,hr,h⟩:=great7_l0 l hn hx l.length 0 (5 * (l.length : Int)) (by omega) (by omega) (by omega)
 refine ⟨r,Ev.congr (fun k => ?_) hr,fun hf => ⟨by have:=(h hf).1; omega,by simpa using (h hf).2⟩⟩
 unfold counterpanelaw07_Great.f
 rw [wrap_id (by omega) (by omega)]
 rfl
structure SmallP (p : S25) : Prop where
 f1 : p.f1.size < 4000
 f2 : p.f2.size < 4000
 f3 : p.f3.size < 4000
 n : p.f5.length + p.f6.length < 4000
 s5 : ∀ t ∈ p.f5,t.size < 4000
 s6 : ∀ t ∈ p.f6,t.size < 4000
theorem great8_l1 (x : S25) (hx : Ok24 x) : ∀ (d i : Nat) (n : Int),i + d = x.f6.length → 0 ≤ n → n ≤ 1000000000000000000 → ∃ r,Ev (fun k => counterpanelaw08_Great.l1 k n (i : Int) x.f0 x.f1 x.f2 x.f3 x.f4 x.f5 x.f6) r ∧ (r = false → n < 4000 ∧ ∀ t ∈ x.f6.drop i,t.size < 4000):=by
 intro d
 induction d with
 | zero =>
  intro i n hi h0 hm
  refine ⟨decide (n ≥ 4000),Ev.step (f:=fun _ => some (decide (n ≥ 4000))) (fun k => ?_) (Ev.now _),?_⟩
  ·simp only [counterpanelaw08_Great.l1]
   rw [if_neg (by omega)]
  ·intro h
   refine ⟨by simpa using h,?_⟩
   rw [List.drop_of_length_le (by omega)]
   intro t ht
   cases ht
 | succ d ih =>
  intro i n hi h0 hm
  have h1 : i < x.f6.length:=by omega
  by_cases hn : n < 4000
  ·have hb:=mn_le (x.f6[i].size : Int) 4000
   have hb0:=mn_nn (a:=(x.f6[i].size : Int)) (b:=4000) (by omega) (by omega)
   obtain ⟨r,hr,hlt⟩:=ih (i + 1) (n + mn (x.f6[i].size : Int) 4000) (by omega) (by omega) (by omega)
   refine ⟨r,Ev.step (f:=fun k => counterpanelaw08_Great.l1 k (n + mn (x.f6[i].size : Int) 4000) ((i + 1 : Nat) : Int) x.f0 x.f1 x.f2 x.f3 x.f4 x.f5 x.f6) (fun k => ?_) hr,fun hf => ⟨hn,?_⟩⟩
   ·simp only [counterpanelaw08_Great.l1]
    rw [if_pos (by omega),if_pos hn,if_pos (by omega),rdOf_get _ _ h1,wrap_1 h1 hx.2,wrap_id (by omega) (by omega)]
   ·rw [List.drop_eq_getElem_cons h1]
    intro t ht
    rcases List.mem_cons.1 ht with ht | ht
    ·subst ht
     have:=(hlt hf).1
     have:=mn_lt (a:=(x.f6[i].size : Int)) (by omega)
     omega
    ·exact (hlt hf).2 t ht
  ·refine ⟨decide (n ≥ 4000),Ev.step (f:=fun _ => some (decide (n ≥ 4000))) (fun k => ?_) (Ev.now _),?_⟩
   ·simp only [counterpanelaw08_Great.l1]
    rw [if_pos (by omega),if_neg hn]
   ·intro h
    exact absurd (by simpa using h) hn
theorem great8_j1 (x : S25) (hx : Ok24 x) (n : Int) (h0 : 0 ≤ n) (hm : n ≤ 1000000000000000000) : ∃ r,Ev (fun k => counterpanelaw08_Great.j1 k n x.f0 x.f1 x.f2 x.f3 x.f4 x.f5 x.f6) r ∧ (r = false → n < 4000 ∧ ∀ t ∈ x.f6,t.size < 4000):=by
 obtain ⟨r,hr,h⟩:=great8_l1 x hx x.f6.length 0 n (by omega) h0 hm
 exact ⟨r,Ev.step (f:=fun k => counterpanelaw08_Great.l1 k n ((0 : Nat) : Int) x.f0 x.f1 x.f2 x.f3 x.f4 x.f5 x.f6) (fun k => by simp only [counterpanelaw08_Great.j1]; rfl) hr,by simpa using h⟩
theorem great8_l0 (x : S25) (hx : Ok24 x) : ∀ (d i : Nat) (n : Int),i + d = x.f5.length → 0 ≤ n → n ≤ 1000000000000000000 → ∃ r,Ev (fun k => counterpanelaw08_Great.l0 k n (i : Int) x.f0 x.f1 x.f2 x.f3 x.f4 x.f5 x.f6) r ∧ (r = false → n < 4000 ∧ (∀ t ∈ x.f5.drop i,t.size < 4000) ∧ ∀ t ∈ x.f6,t.size < 4000):=by
 intro d
 induction d with
 | zero =>
  intro i n hi h0 hm
  obtain ⟨r,hr,h⟩:=great8_j1 x hx n h0 hm
  refine ⟨r,Ev.step (f:=fun k => counterpanelaw08_Great.j1 k n x.f0 x.f1 x.f2 x.f3 x.f4 x.f5 x.f6) (fun k => ?_) hr,fun hf => ⟨(h hf).1,?_,(h hf).2⟩⟩
  ·simp only [counterpanelaw08_Great.l0]
   rw [if_neg (by omega)]
  ·rw [List.drop_of_length_le (by omega)]
   intro t ht
   cases ht
 | succ d ih =>
  intro i n hi h0 hm
  have h1 : i < x.f5.length:=by omega
  by_cases hn : n < 4000
  ·have hb:=mn_le (x.f5[i].size : Int) 4000
   have hb0:=mn_nn (a:=(x.f5[i].size : Int)) (b:=4000) (by omega) (by omega)
   obtain ⟨r,hr,hlt⟩:=ih (i + 1) (n + mn (x.f5[i].size : Int) 4000) (by omega) (by omega) (by omega)
   refine ⟨r,Ev.step (f:=fun k => counterpanelaw08_Great.l0 k (n + mn (x.f5[i].size : Int) 4000) ((i + 1 : Nat) : Int) x.f0 x.f1 x.f2 x.f3 x.f4 x.f5 x.f6) (fun k => ?_) hr,fun hf => ⟨hn,?_,(hlt hf).2.2⟩⟩
   ·simp only [counterpanelaw08_Great.l0]
    rw [if_pos (by omega),if_pos hn,if_pos (by omega),rdOf_get _ _ h1,wrap_1 h1 hx.1,wrap_id (by omega) (by omega)]
   ·rw [List.drop_eq_getElem_cons h1]
    intro t ht
    rcases List.mem_cons.1 ht with ht | ht
    ·subst ht
     have:=(hlt hf).1
     have:=mn_lt (a:=(x.f5[i].size : Int)) (by omega)
     omega
    ·exact (hlt hf).2.1 t ht
  ·obtain ⟨r,hr,h⟩:=great8_j1 x hx n h0 hm
   refine ⟨r,Ev.step (f:=fun k => counterpanelaw08_Great.j1 k n x.f0 x.f1 x.f2 x.f3 x.f4 x.f5 x.f6) (fun k => ?_) hr,fun hf => absurd (h hf).1 hn⟩
   simp only [counterpanelaw08_Great.l0]
   rw [if_pos (by omega),if_neg hn]
theorem great8 (x : S25) (hx : Ok24 x) : ∃ r,Ev (fun k => counterpanelaw08_Great.f k x.f0 x.f1 x.f2 x.f3 x.f4 x.f5 x.f6) r ∧ (r = false → SmallP x):=by
 have b1:=mn_le (x.f1.size : Int) 4000
 have b2:=mn_le (x.f2.size : Int) 4000
 have b3:=mn_le (x.f3.size : Int) 4000
 have c1:=mn_nn (a:=(x.f1.size : Int)) (b:=4000) (by omega) (by omega)
 have c2:=mn_nn (a:=(x.f2.size : Int)) (b:=4000) (by omega) (by omega)
 have c3:=mn_nn (a:=(x.f3.size : Int)) (b:=4000) (by omega) (by omega)
 obtain ⟨h5,h6⟩:=id hx
 obtain ⟨r,hr,h⟩:=great8_l0 x hx x.f5.length 0 (mn (x.f1.size : Int) 4000 + mn (x.f2.size : Int) 4000 + mn (x.f3.size : Int) 4000 + (x.f5.length : Int) + (x.f6.length : Int)) (by omega) (by omega) (by omega)
 refine ⟨r,Ev.congr (fun k => ?_) hr,fun hf => ?_⟩
 ·unfold counterpanelaw08_Great.f
  rw [wrap_id (i:=mn (x.f1.size : Int) 4000 + mn (x.f2.size : Int) 4000 + mn (x.f3.size : Int) 4000 + (x.f5.length : Int)) (by omega) (by omega),wrap_id (by omega) (by omega)]
  rfl
 ·obtain ⟨q1,q2,q3⟩:=h hf
  have m1:=mn_lt (a:=(x.f1.size : Int)) (by omega)
  have m2:=mn_lt (a:=(x.f2.size : Int)) (by omega)
  have m3:=mn_lt (a:=(x.f3.size : Int)) (by omega)
  exact ⟨by omega,by omega,by omega,by omega,by simpa using q2,q3⟩
end Go.Proofs.YthhohbidjhcjeaaGreatDoor.Pl
namespace Go.Proofs.YthhohbidjhcjeaaGreatDoor.RB
open Go Go.RowKit
variable {F : Fence} {n : Nat} {P : Program}
def SeqG {α : Type} (F : Fence) (n : Nat) (P : Program) (g : Nat) (lb : Array Value) (encs : α → Array Value) (Kp : World → World → Prop) (Z : Nat → Prop) (S Sp : List α → Prop) (G : List α → α → Prop) (w : World) : Prop :=
 ∀ (l : Nat) (J Jx : List α → World → Prop) (W : World),Below w.heap.size w W → AbidesZ Z W.heap.size J → AbidesZ Z W.heap.size Jx →
  (∀ pre x W1,J pre W1 → G pre x → YieldAt F (n - 1) P l (encs x) W1 fun e W' =>
   (e = .returned (.bool true) ∧ J (pre ++ [x]) W' ∧ Kp W1 W') ∨ (e = .returned (.bool false) ∧ Jx (pre ++ [x]) W')) →
  J [] W →
  CallsIn F n P g (#[.func (.yield l) #[] #[]] ++ lb) W fun e W' => (∃ v,e = .returned v) ∧ ((∃ xs,S xs ∧ J xs W') ∨ (∃ pre,Sp pre ∧ Jx pre W'))

theorem wpIn_rangeFunc_given {α : Type} {g : Operand} {ps : Array Tmp} {assign body : Code} {Q : Exit → Act → World → Prop} {a : Act} {w : World}
  (hro : F.round = none) (h1 : 1 ≤ n) {gf : Nat} {lb : Array Value} (hg : a.eval g = .func (.func gf) #[] lb) (hFg : F.fn gf) (eg : ∀ args w,(callFunc gf args).run P w = .ok (.enter gf args) w)
  {encs : α → Array Value} {Kp : World → World → Prop} {Z : Nat → Prop} {S Sp : List α → Prop} {G : List α → α → Prop} {w0 : World} (hseq : SeqG F (n - 1) P gf lb encs Kp Z S Sp G w0) (hZ : ∀ r,Z r → r < w.heap.size)
  (hKt : ∀ {A B C : World},Kp A B → Kp B C → Kp A C) (hKb : ∀ (W : World) (l : Nat) (o o' : Obj),w.heap.size ≤ l → W.heap[l]? = some o → o.isCells = false → o.isWalk = false → Kp W (W.putObj l o')) (hb0 : Below w0.heap.size w0 w) (hps : ∀ x,(encs x).size = ps.size)
  (I : List α → World → Prop) (Ix : Code → List α → World → Prop) (hI : OwnZ Z w.heap.size I) (hIx : ∀ c,OwnZ Z w.heap.size (Ix c)) (h0 : I [] w) (a₁ : α → Act)
  (hassign : ∀ (l : Nat) (x : α) (W : World) (K : Act → World → Prop),K (a₁ x) W →
   assign.wpIn (F.inRound l) (n - 1 - 1) P (Exit.then K (fun _ _ _ => False)) { tmps:=(ps.zip (encs x)).foldl (fun t (p,v) => t.setIfInBounds p v) a.tmps,defers:=[] } W)
  (hbody : ∀ (l : Nat) (pre : List α) (x : α) (W : World),I pre W → G pre x → body.wpIn (F.inRound l) (n - 1 - 1) P (postZ w.heap.size Kp I Ix (pre ++ [x]) W) (a₁ x) W)
  (hdone : ∀ (D : Nat) (xs : List α) (W : World),w.heap.size ≤ D → S xs → I xs W → W.heap[D]? = some (.deferred (some [])) → Q .normal { a with defers:={ target:=.collected D,args:=#[] } :: a.defers } W)
  (hstop : ∀ (D : Nat) (pre : List α) (W : World),w.heap.size ≤ D → Sp pre → Ix .ret pre W → W.heap[D]? = some (.deferred (some [])) → (Code.ret).wpIn F n P Q { a with defers:={ target:=.collected D,args:=#[] } :: a.defers } W) :
  (Code.rangeFunc g ps assign body).wpIn F n P Q a w:=by
 refine wpIn_rangeFunc fun fn hfn => ?_
 rw [hro]
  -- the two blocks of book-keeping: the deferred calls, the loop's record
 obtain ⟨rec,hrec⟩ : ∃ rec : LoopState → Option Code → Loop,rec = fun st pe => { state:=st,pending:=pe,fn,tmps:=a.tmps,params:=ps,assign,body,defers:=w.heap.size }:=⟨_,rfl⟩
 obtain ⟨V,hV⟩ : ∃ V,(w.alloc (.deferred (some []))).alloc (.loop (rec .ready none)) = V:=⟨_,rfl⟩
 have vL : V.heap[w.heap.size + 1]? = some (.loop (rec .ready none)):=by
  have h:=World.alloc_heap_new (w.alloc (.deferred (some []))) (.loop (rec .ready none))
  rw [World.size_alloc,hV] at h
  exact h
 have vD : V.heap[w.heap.size]? = some (.deferred (some [])):=by
  rw [← hV]
  exact (Below.heap_alloc _ _ _ (by simp)).trans (World.alloc_heap_new w _)
 have vS : V.heap.size = w.heap.size + 2:=by rw [← hV]; simp
 have vI : I [] V:=by rw [← hV]; exact hI.from.alloc _ (hI.from.alloc _ h0)
 have vB : Below w0.heap.size w0 V:=by
  rw [← hV]
  exact hb0.trans ((((Below.refl _ w).alloc (Nat.le_refl _) _).alloc (by simp) _).mono hb0.size)
  -- an object that holds no cells, or the two blocks, are no matter of the iterator's
 have keep : ∀ {X Y : World} {row : Option Nat} {k : Nat} {o : Obj},X.grownBy Y row → (∀ r,row = some r → (V.heap.size ≤ r ∧ ∃ o : Obj,X.heap[r]? = some o ∧ o.isWalk = true) ∨ Z r) → w.heap.size ≤ k → k < w.heap.size + 2 → X.heap[k]? = some o → Y.heap[k]? = some o:=by
  intro X Y row k o hg' hr h1 h2 hk
  refine (hg'.block k (Array.getElem?_eq_some_iff.1 hk).1 (fun e => ?_)).trans hk
  rcases hr k e.symm with ⟨h3,_⟩ | h3
  ·omega
  ·have:=hZ k h3
   omega
 have less : ∀ {X : World} {row : Option Nat},(∀ r,row = some r → (V.heap.size ≤ r ∧ ∃ o : Obj,X.heap[r]? = some o ∧ o.isWalk = true) ∨ Z r) → ∀ r,row = some r → (w.heap.size ≤ r ∧ ∃ o : Obj,X.heap[r]? = some o ∧ o.isCells = false) ∨ Z r:=by
  intro X row hr r e
  rcases hr r e with ⟨h3,o,ho,hw⟩ | h3
  ·exact .inl ⟨by omega,o,ho,Obj.not_cells_of_walk hw⟩
  ·exact .inr h3
 refine ⟨w.heap.size + 1,[{ target:=.collected w.heap.size,args:=#[] }],V,{ target:=.fn (.func gf) lb,args:=#[.func (.yield (w.heap.size + 1)) #[] #[]] },V,gf,
  #[.func (.yield (w.heap.size + 1)) #[] #[]] ++ lb,V,?_,?_,?_,?_,fun _ => h1,?_⟩
 ·rw [← hV,hrec]; exact run_enterLoop_outer _ _ _ _ _
 ·simp only [resolve,hg]; simp [go_sem]
 ·intro f' hf'; simp [Target.leads] at hf'; subst hf'; exact hFg
 ·simp [invoke,go_sem,eg]
 refine (hseq (w.heap.size + 1)
  (fun pre W => I pre W ∧ W.heap[w.heap.size + 1]? = some (.loop (rec .ready none)) ∧ W.heap[w.heap.size]? = some (.deferred (some [])))
  (fun pre W => Ix .ret pre W ∧ W.heap[w.heap.size + 1]? = some (.loop (rec .done (some .ret))) ∧ W.heap[w.heap.size]? = some (.deferred (some [])))
  V vB
  (fun s X Y row hs hg' hr => ⟨hI s X Y row hs.1 hg' (less hr),keep hg' hr (by omega) (by omega) hs.2.1,keep hg' hr (by omega) (by omega) hs.2.2⟩)
  (fun s X Y row hs hg' hr => ⟨hIx .ret s X Y row hs.1 hg' (less hr),keep hg' hr (by omega) (by omega) hs.2.1,keep hg' hr (by omega) (by omega) hs.2.2⟩)
  ?round ⟨vI,vL,vD⟩).mono ?behind
 case round =>
  rintro pre x W ⟨hi,hl,hk⟩ hlen
  have hlt : w.heap.size + 1 < W.heap.size:=(Array.getElem?_eq_some_iff.1 hl).1
  have hy:=run_yield (P:=P) (args:=encs x) hl (by rw [hrec]; exact hps x)
  rw [hrec] at hy
  refine ⟨fn,_,assign,body,hy,roundIn_of_wpIn hfn (hassign _ x W _ ?_)⟩
  refine ⟨_,run_beginRound hl (by rw [hrec]),?_⟩
  obtain ⟨X,hX⟩ : ∃ X,W.putObj (w.heap.size + 1) (.loop { rec .ready none with state:=.busy }) = X:=⟨_,rfl⟩
  have xL : X.heap[w.heap.size + 1]? = some (.loop { rec .ready none with state:=.busy }):=by rw [← hX]; exact World.putObj_heap_same hlt
  have xD : X.heap[w.heap.size]? = some (.deferred (some [])):=by rw [← hX]; exact (World.putObj_heap_other (by omega)).trans hk
  have xK : Kp W X:=by rw [← hX]; exact hKb _ _ _ _ (by omega) hl rfl rfl
  have xI : I pre X:=by rw [← hX]; exact hI.from.putObj _ hi (by omega) hl rfl
  rw [hX]
  refine wpIn_mono (hbody _ pre x X xI hlen) ?_
    -- the round's end: the record is written back
  have fin : ∀ (jump : Option Code) (Y : World),KeepsFrom w.heap.size X Y →
    (Instr.endRound (w.heap.size + 1) jump).run P Y = .ok (.bool jump.isNone) (Y.putObj (w.heap.size + 1) (.loop (rec (if jump.isNone then .ready else .done) jump))) ∧
    Y.heap[w.heap.size + 1]? = some (.loop { rec .ready none with state:=.busy }) ∧
    (Y.putObj (w.heap.size + 1) (.loop (rec (if jump.isNone then .ready else .done) jump))).heap[w.heap.size + 1]? = some (.loop (rec (if jump.isNone then .ready else .done) jump)) ∧
    (Y.putObj (w.heap.size + 1) (.loop (rec (if jump.isNone then .ready else .done) jump))).heap[w.heap.size]? = some (.deferred (some [])):=by
   intro jump Y hk3
   have yL:=hk3.same _ _ (by omega) xL rfl
   have e:=run_endRound (P:=P) jump yL
   rw [hrec] at e ⊢
   exact ⟨e,by rw [hrec] at yL; exact yL,World.putObj_heap_same (Array.getElem?_eq_some_iff.1 yL).1,(World.putObj_heap_other (by omega)).trans (hk3.same _ _ (Nat.le_refl _) xD rfl)⟩
  intro e a3 Y hp
  cases e with
  | normal =>
   obtain ⟨q1,q2,q3⟩:=hp
   obtain ⟨r1,r2,r3,r4⟩:=fin none Y q1
   exact ⟨_,_,r1,.inl ⟨rfl,⟨hI.from.putObj _ q3 (by omega) r2 rfl,r3,r4⟩,hKt xK (hKt q2 (hKb _ _ _ _ (by omega) r2 rfl rfl))⟩⟩
  | ret =>
   obtain ⟨q1,q3⟩:=hp
   obtain ⟨r1,r2,r3,r4⟩:=fin (some .ret) Y q1
   exact ⟨_,_,r1,.inr ⟨rfl,(hIx .ret).from.putObj _ q3 (by omega) r2 rfl,r3,r4⟩⟩
  | exit id => exact hp.elim
  | goto t => exact hp.elim
  | panic ch => exact hp.elim
  | outgrown => exact hp.elim
 case behind =>
  rintro e Y ⟨⟨v,rfl⟩,(⟨xs,hS,hi,hl,hk⟩ | ⟨pre,hSp,hi,hl,hk⟩)⟩
  ·have e:=run_endLoop (P:=P) hl (by rw [hrec]; simp)
   rw [hrec] at e
   exact ⟨none,_,e,hdone _ xs _ (Nat.le_refl _) hS (hI.from.putObj _ hi (by omega) hl rfl) ((World.putObj_heap_other (by omega)).trans hk)⟩
  ·have e:=run_endLoop (P:=P) hl (by rw [hrec]; simp)
   rw [hrec] at e
   exact ⟨some .ret,_,e,hstop _ pre _ (Nat.le_refl _) hSp ((hIx .ret).from.putObj _ hi (by omega) hl rfl) ((World.putObj_heap_other (by omega)).trans hk)⟩
end Go.Proofs.YthhohbidjhcjeaaGreatDoor.RB
namespace Go.Proofs.YthhohbidjhcjeaaGreatDoorW.PrintWords
open Go.RowKit
namespace Kd
section
variable {α : Type} {d : Kd α} {e base : Nat} {B : Nat → Prop} {w w1 W : World} {v v1 : Value} {xs : List α}
def NN {α : Type} (d : Kd α) (e : Nat) (w : World) (base : Nat) (B : Nat → Prop) (v : Value) (xs : List α) : Prop:=OwnRow (fun x c => FK d w B x c) e d.sz w base v xs
theorem NN_base (h : NN d e w base B v xs) : ∀ k,v.ownBlock = some k → base ≤ k:=by
 obtain ⟨inner,ho,_⟩:=h
 exact own_base ho
theorem NN_N (h : NN d e w base B v xs) (hB : ∀ k,B k → k < base) : N d e w base (fun k => B k ∨ base ≤ k) v xs:=by
 have hb:=NN_base h
 obtain ⟨inner,ho,hr⟩:=h
 refine ⟨fun k hk => .inr (hb k hk),chunks d.sz xs.length inner,chunks_length _ _ _,⟨fun k hk => hk.symm,inner,by rw [chunks_length]; exact ho,reps_raw hr (fun x c hp => (FK_raw hp).2)⟩,fun j x c hx hc => ?_⟩
 rw [chunks_get hc]
 exact FK_mono (hr.2 j x hx) (fun k hk => ⟨.inl hk,fun e => by have:=hb k e.symm; have:=hB k hk; omega⟩)
end
end Kd
end Go.Proofs.YthhohbidjhcjeaaGreatDoorW.PrintWords
namespace Go
end Go
namespace Go.Proofs.YthhohbidjhcjeaaGreatDoor.H
open Go.RowKit Go.Shelf Go.Proofs.YthhohbidjhcjeaaGreatDoorW.PrintWords Go.Proofs.YthhohbidjhcjeaaGreatDoorW.PrintLast Go.Proofs.YthhohbidjhcjeaaGreatDoorW.PrintMore
open Go.Proofs.YthhohbidjhcjeaaGreatDoor.Q
set_option linter.unusedVariables false
set_option linter.unusedSimpArgs false
def cmpP (a b : ByteArray) : Int:=Lib.compareBytes a.data.toList b.data.toList
theorem order_calls (p q : ByteArray) (x1 x2 x3 y1 y2 y3 : Value) (h1 : x1.oneCell' = true) (h2 : x2.oneCell' = true) (h3 : x3.oneCell' = true) (k1 : y1.oneCell' = true) (k2 : y2.oneCell' = true) (k3 : y3.oneCell' = true) (w : World) :
  Calls Tryz.prog 107 #[.agg #[.string p,x1,x2,x3],.agg #[.string q,y1,y2,y3]] w fun e w' => e = .returned (.int .i64 (cmpP p q)) ∧ Below w.heap.size w w':=by
 have hC:=fun W => Tryz.strings_Compare p q W
 go_enter Tryz.func107,Tryz.ntmps107
 go_wp2_with (go_at_call 143; refine (hC _).mono ?_; rintro e w' ⟨rfl,rfl⟩)
 go_ret
 exact ⟨rfl,by repeat (first | exact Below.refl _ _ | refine Below.alloc ?_ (by simp <;> omega) _ | refine Below.drew ?_)⟩
theorem tkH {P : Program} {md : Region.Mode} {ops : Array Oper} {Q : Exit → Act → World → Prop} {S : World → Prop} {oi : Oper} {v : Value} {fuel : Nat} {listed : Array Bool} {a : Act} {w : World} (i : Nat) (N : Option Tmp) (hi : ops[i]? = some oi) (hN : oi.dst = N)
  (hc : (Region.noSelect ops && Region.free md ops listed i && (Region.ready md ops listed).contains i) = true) (hw : Region.wanted oi (yielded ops a.tmps) = true)
  (hQ : ∀ c a w,Q (.panic c) (a.put N v) w → Q (.panic c) a w) (hy : ∀ w,S w → (execOp a.eval oi).run P w = .ok (.value v) w) (hS : S w)
  (h : wpAnyH P md ops Q S fuel (listed.setIfInBounds i true) (a.put N v) w) : wpAnyH P md ops Q S (fuel + 1) listed a w:=by
 subst hN
 simp only [Bool.and_eq_true] at hc
 exact wpAnyH_take hi hc.1.1 hc.1.2 hc.2 hQ (Or.inl ⟨hw,hy⟩) hS h
theorem tkE {P : Program} {md : Region.Mode} {ops : Array Oper} {Q : Exit → Act → World → Prop} {S : World → Prop} {oi : Oper} {v : Value} {fuel : Nat} {listed : Array Bool} {a : Act} {w : World} (i : Nat) (d : Tmp) (hS : S w) (hy : ∀ w, S w → (execOp a.eval oi).run P w = .ok (.value v) w)
    (h : wpAnyH P md ops Q S fuel (listed.setIfInBounds i true) (a.put (some d) v) w) (hi : ops[i]? = some oi := by rfl) (hN : oi.dst = some d := by rfl)
    (hc : (Region.noSelect ops && Region.free md ops listed i && (Region.ready md ops listed).contains i) = true := by kernel_rfl) (hw : Region.wanted oi (yielded ops a.tmps) = true := by kernel_rfl)
    (hQ : ∀ c a w, Q (.panic c) (a.put (some d) v) w → Q (.panic c) a w := by exact fun _ _ _ h => h) : wpAnyH P md ops Q S (fuel + 1) listed a w := tkH i (some d) hi hN hc hw hQ hy hS h
theorem tkU {P : Program} {md : Region.Mode} {ops : Array Oper} {Q : Exit → Act → World → Prop} {S : World → Prop} {oi : Oper} {fuel : Nat} {listed : Array Bool} {a : Act} {w : World} (i : Nat) (N : Option Tmp) (hi : ops[i]? = some oi) (hN : oi.dst = N)
  (hc : (Region.noSelect ops && Region.free md ops listed i && (Region.ready md ops listed).contains i) = true) (hw : Region.wanted oi (yielded ops a.tmps) = false)
  (hQ : ∀ c a w,Q (.panic c) (a.put N undef) w → Q (.panic c) a w) (hS : S w)
  (h : wpAnyH P md ops Q S fuel (listed.setIfInBounds i true) (a.put N undef) w) : wpAnyH P md ops Q S (fuel + 1) listed a w:=by
 subst hN
 simp only [Bool.and_eq_true] at hc
 exact wpAnyH_take hi hc.1.1 hc.1.2 hc.2 hQ (Or.inr ⟨hw,rfl⟩) hS h
def skipL : List (Nat × Tmp) → Array Bool → Array Bool
 | [],l => l
 | (i,_) :: is,l => skipL is (l.setIfInBounds i true)
def skipP : List (Nat × Tmp) → Act → Act
 | [],a => a
 | (_,d) :: is,a => skipP is (a.put (some d) undef)
def skipC (md : Region.Mode) (ops : Array Oper) : List (Nat × Tmp) → Array Bool → Act → Bool
 | [],_,_ => true
 | (i,d) :: is,l,a => (match ops[i]? with
  | none => false
  | some oi => (Region.noSelect ops && Region.free md ops l i && (Region.ready md ops l).contains i) && !(Region.wanted oi (yielded ops a.tmps)) && (match oi.dst with | some e => e == d | none => false)) && skipC md ops is (l.setIfInBounds i true) (a.put (some d) undef)
theorem tkUs {P : Program} {md : Region.Mode} {ops : Array Oper} {Q : Exit → Act → World → Prop} {S : World → Prop} {w : World} (hQ : ∀ c a (d : Tmp) w,Q (.panic c) (a.put (some d) undef) w → Q (.panic c) a w) (hS : S w) :
  ∀ (is : List (Nat × Tmp)) (m : Nat) {n : Nat} {listed : Array Bool} {a : Act},n = m + is.length → skipC md ops is listed a = true → wpAnyH P md ops Q S m (skipL is listed) (skipP is a) w → wpAnyH P md ops Q S n listed a w
 | [],m,n,listed,a,hn,hc,h => by subst hn; exact h
 | (i,d) :: is,m,n,listed,a,hn,hc,h => by
  simp only [skipC] at hc
  cases hi : ops[i]? with
  | none => rw [hi] at hc; simp at hc
  | some oi =>
   rw [hi] at hc
   simp only [Bool.and_eq_true,Bool.not_eq_true'] at hc
   obtain ⟨⟨⟨h1,h2⟩,h3⟩,h4⟩:=hc
   have hd : oi.dst = some d:=by
    cases ho : oi.dst with
    | none => rw [ho] at h3; cases h3
    | some e => rw [ho] at h3; rw [eq_of_beq h3]
   have hn' : n = (m + is.length) + 1:=by rw [hn,List.length_cons]; omega
   subst hn'
   refine tkU i (some d) hi hd (by simp only [Bool.and_eq_true]; exact h1) h2 (fun c a w => hQ c a d w) hS ?_
   exact tkUs hQ hS is m rfl h4 h
theorem cells4 {W : World} {g : Nat} {v0 v1 v2 v3 : Value} (h : W.heap[g]? = some (.cells #[v0,v1,v2,v3] 41 (0,0))) : W.cell? ⟨g,0,none⟩ = some v0 ∧ W.cell? ⟨g,1,none⟩ = some v1 ∧ W.cell? ⟨g,2,none⟩ = some v2 ∧ W.cell? ⟨g,3,none⟩ = some v3 :=
 ⟨(blk_cell h 0).trans rfl,(blk_cell h 1).trans rfl,(blk_cell h 2).trans rfl,(blk_cell h 3).trans rfl⟩
structure Re (w : World) (x : S41) (X : Option Addr) (c : Nat) : Prop where
 l : x.f2.length ≤ c
 g : Kd.string.C w X x.f2.length x.f2
theorem Re.later {w w' : World} {x : S41} {X : Option Addr} {c : Nat} (h : Re w x X c) (hb : Below w.heap.size w w') : Re w' x X c:=⟨h.l,Kd.C_below h.g hb⟩
theorem ent_at {w : World} {A : Option Addr} {n : Nat} {l : List S41} (h : Kd.C k41 w A n l) (i : Nat) (hi : i < l.length) (hn : n = l.length) : ∃ (ad : Addr) (X : Option Addr) (c : Nat),A = some ad ∧ Re w (l.getD i z41) X c ∧
  w.cell? (ad.add (i * 4)) = some (.string (l.getD i z41).f0) ∧ w.cell? ⟨(ad.add (i * 4)).block,(ad.add (i * 4)).off + 1,none⟩ = some (.int .i64 (l.getD i z41).f1) ∧
  w.cell? ⟨(ad.add (i * 4)).block,(ad.add (i * 4)).off + 2,none⟩ = some (.slice X (l.getD i z41).f2.length c) ∧ w.cell? ⟨(ad.add (i * 4)).block,(ad.add (i * 4)).off + 3,none⟩ = some (.string (l.getD i z41).f3):=by
 obtain ⟨ad,X,c,e,c0,c1,c2,c3,hl,hg⟩:=at_T41 h (i : Int) (by omega) (by omega)
 have hr : rd_T41 l (i : Int) = l.getD i z41:=by simp [rd_T41]
 rw [hr] at c0 c1 c2 c3 hl hg
 rw [Int.toNat_natCast] at c0 c1 c2 c3
 exact ⟨ad,X,c,e,⟨hl,hg⟩,c0,c1,c2,c3⟩
def lowB (l : List S41) (p : ByteArray) : Nat:=l.countP (fun x => decide (cmpP x.f0 p < 0))
def hasB (l : List S41) (p : ByteArray) : Bool:=decide (lowB l p < l.length) && decide (cmpP (l.getD (lowB l p) z41).f0 p = 0)
def Mono (l : List S41) (p : ByteArray) : Prop:=∀ a b,a ≤ b → b < l.length → cmpP (l.getD b z41).f0 p < 0 → cmpP (l.getD a z41).f0 p < 0
theorem countP_cut (q : S41 → Bool) : ∀ (l : List S41) (i : Nat),i ≤ l.length → (∀ t,t < i → q (l.getD t z41) = true) → (∀ t,i ≤ t → t < l.length → q (l.getD t z41) = false) → l.countP q = i
 | [],i,hi,_,_ => by simp at hi; simp [hi]
 | a :: r,0,_,_,h2 => by
  rw [List.countP_eq_zero]
  intro x hx
  obtain ⟨t,ht,rfl⟩:=List.getElem_of_mem hx
  have:=h2 t (Nat.zero_le _) ht
  rw [show (a :: r).getD t z41 = (a :: r)[t] by simp [List.getD,List.getElem?_eq_getElem ht]] at this
  simp [this]
 | a :: r,i + 1,hi,h1,h2 => by
  have ha : q a = true:=by simpa using h1 0 (Nat.succ_pos _)
  rw [List.countP_cons_of_pos ha,countP_cut q r i (by simpa using hi) (fun t ht => by simpa using h1 (t + 1) (by omega)) (fun t h3 h4 => by simpa using h2 (t + 1) (by omega) (by simpa using h4))]
theorem lowB_le (l : List S41) (p : ByteArray) : lowB l p ≤ l.length:=List.countP_le_length
structure Bs (w : World) (p : ByteArray) (W : World) : Prop where
 below : Below w.heap.size w W
 box : W.heap[w.heap.size]? = some (.cells #[.string p,.int .i64 0,.slice none 0 0,.string ⟨#[]⟩] 41 (0,0))
theorem Bs.later {w W W' : World} {p : ByteArray} (h : Bs w p W) (hb : Below W.heap.size W W') : Bs w p W':=⟨h.below.trans (hb.mono h.below.size),blk_below h.box hb⟩
theorem Bs.drew {w W : World} {p : ByteArray} (h : Bs w p W) : Bs w p W.drew:=⟨below_drew h.below,h.box⟩
set_option maxHeartbeats 4000000 in
set_option maxRecDepth 1000000 in
theorem bsearch_at (l : List S41) (A : Option Addr) (c : Nat) (p : ByteArray) (w : World) (hr : Kd.C k41 w A l.length l) (hl : l.length ≤ 1000000000) (hm : Mono l p) :
  Calls Tryz.prog 130 #[.slice A l.length c,.agg #[.string p,.int .i64 0,.slice none 0 0,.string ⟨#[]⟩],.func (.func 107) #[] #[]] w fun e w' => e = .returned (.tuple #[.int .i64 (lowB l p : Nat),.bool (hasB l p)]) ∧ Below w.heap.size w w':=by
 have eg : ∀ args w,(callFunc 107 args).run Tryz.prog w = .ok (.enter 107 args) w:=enters_of Tryz.func107 (by kernel_rfl) rfl
 have HR:=Aside0.mk hr
 have M:=Aside0.mk hm
 have S0 : Aside0 (Bs w p (w.alloc (.cells #[.string p,.int .i64 0,.slice none 0 0,.string ⟨#[]⟩] 41))):=⟨⟨below_alloc (Below.refl _ _) _,blk_new _ _⟩⟩
 clear hr hm
 generalize hcnt : lowB l p = cnt
 have CN:=Aside0.mk hcnt
 clear hcnt
 generalize hfin : hasB l p = fin
 have FIN:=Aside0.mk hfin
 clear hfin
 go_enter Tryz.func130,Tryz.ntmps130
 go_wp2
 go_loopg [9,10] l.length (fun kx s9 s10 wr => ∃ lo hi : Nat,s9 = .int .i64 lo ∧ s10 = .int .i64 hi ∧ lo ≤ hi ∧ hi ≤ l.length ∧ hi - lo ≤ kx ∧ Aside0 (Bs w p wr) ∧
  Aside0 ((∀ t,t < lo → cmpP (l.getD t z41).f0 p < 0) ∧ (∀ t,hi ≤ t → t < l.length → 0 ≤ cmpP (l.getD t z41).f0 p)))
 case atStart => exact ⟨0,l.length,rfl,rfl,Nat.zero_le _,Nat.le_refl _,by omega,S0,⟨⟨fun t ht => absurd ht (Nat.not_lt_zero _),fun t h1 h2 => by omega⟩⟩⟩
 case round =>
  clear S0
  obtain ⟨lo,hi,rfl,rfl,hlh,hin,hg,S1,I⟩:=hrel
  obtain ⟨b0,b1,b2,b3⟩:=cells4 S1.out.box
  by_cases hlt : lo < hi
  ·obtain ⟨ad,X,x,rfl,rx,c0,c1,c2,c3⟩:=ent_at (Kd.C_below HR.out S1.out.below) (((lo : Int) + (hi : Int)) / 2).toNat (by omega) rfl
   generalize hy : l.getD (((lo : Int) + (hi : Int)) / 2).toNat z41 = y at rx c0 c1 c2 c3
   rw [show (((lo : Int) + (hi : Int)) / 2).toNat = (lo + hi) / 2 by omega] at hy
   have Y:=Aside0.mk hy
   have RX:=Aside0.mk rx
   have hx0 : (0 : Int) ≤ ((lo : Int) + (hi : Int)) / 2:=by omega
   have hx1 : ((lo : Int) + (hi : Int)) / 2 < (l.length : Int):=by omega
   clear hy rx
   have hc:=fun W => order_calls y.f0 p (.int .i64 y.f1) (.slice X y.f2.length x) (.string y.f3) (.int .i64 0) (.slice none 0 0) (.string ⟨#[]⟩) rfl rfl rfl rfl rfl rfl W
   by_cases hyx : cmpP y.f0 p < 0
   ·go_wp2
    go_region_held3 (fun W => W.cell? (ad.add ((((lo : Int) + (hi : Int)) / 2).toNat * 4)) = some (.string y.f0) ∧ W.cell? ⟨(ad.add ((((lo : Int) + (hi : Int)) / 2).toNat * 4)).block,(ad.add ((((lo : Int) + (hi : Int)) / 2).toNat * 4)).off + 1,none⟩ = some (.int .i64 y.f1) ∧ W.cell? ⟨(ad.add ((((lo : Int) + (hi : Int)) / 2).toNat * 4)).block,(ad.add ((((lo : Int) + (hi : Int)) / 2).toNat * 4)).off + 2,none⟩ = some (.slice X y.f2.length x) ∧ W.cell? ⟨(ad.add ((((lo : Int) + (hi : Int)) / 2).toNat * 4)).block,(ad.add ((((lo : Int) + (hi : Int)) / 2).toNat * 4)).off + 3,none⟩ = some (.string y.f3) ∧ W.cell? ⟨w.heap.size,0,none⟩ = some (.string p) ∧ W.cell? ⟨w.heap.size,1,none⟩ = some (.int .i64 0) ∧ W.cell? ⟨w.heap.size,2,none⟩ = some (.slice none 0 0) ∧ W.cell? ⟨w.heap.size,3,none⟩ = some (.string ⟨#[]⟩)) (first | exact ⟨c0,c1,c2,c3,b0,b1,b2,b3⟩ | exact ⟨pw_cell_below hb c0,pw_cell_below hb c1,pw_cell_below hb c2,pw_cell_below hb c3,pw_cell_below hb b0,pw_cell_below hb b1,pw_cell_below hb b2,pw_cell_below hb b3⟩) ((go_at_fn 107; refine (hc _).mono ?_; rintro e w' ⟨rfl,hb⟩))
    all_goals
     go_wp2
     go_roundg (hi - ((lo + hi) / 2 + 1))
     case measure => omega
     case rel =>
      have I2 : Aside0 ((∀ t,t < (lo + hi) / 2 + 1 → cmpP (l.getD t z41).f0 p < 0) ∧ (∀ t,hi ≤ t → t < l.length → 0 ≤ cmpP (l.getD t z41).f0 p)):=⟨⟨fun t ht => M.out t ((lo + hi) / 2) (by omega) (by omega) (by rw [Y.out]; exact hyx),I.out.2⟩⟩
      exact ⟨(lo + hi) / 2 + 1,hi,by rw [show ((lo : Int) + (hi : Int)) / 2 + 1 = (((lo + hi) / 2 + 1 : Nat) : Int) by omega],rfl,by omega,hin,Nat.le_refl _,⟨S1.out.drew.later hb⟩,I2⟩
   ·go_wp2
    go_region_held3 (fun W => W.cell? (ad.add ((((lo : Int) + (hi : Int)) / 2).toNat * 4)) = some (.string y.f0) ∧ W.cell? ⟨(ad.add ((((lo : Int) + (hi : Int)) / 2).toNat * 4)).block,(ad.add ((((lo : Int) + (hi : Int)) / 2).toNat * 4)).off + 1,none⟩ = some (.int .i64 y.f1) ∧ W.cell? ⟨(ad.add ((((lo : Int) + (hi : Int)) / 2).toNat * 4)).block,(ad.add ((((lo : Int) + (hi : Int)) / 2).toNat * 4)).off + 2,none⟩ = some (.slice X y.f2.length x) ∧ W.cell? ⟨(ad.add ((((lo : Int) + (hi : Int)) / 2).toNat * 4)).block,(ad.add ((((lo : Int) + (hi : Int)) / 2).toNat * 4)).off + 3,none⟩ = some (.string y.f3) ∧ W.cell? ⟨w.heap.size,0,none⟩ = some (.string p) ∧ W.cell? ⟨w.heap.size,1,none⟩ = some (.int .i64 0) ∧ W.cell? ⟨w.heap.size,2,none⟩ = some (.slice none 0 0) ∧ W.cell? ⟨w.heap.size,3,none⟩ = some (.string ⟨#[]⟩)) (first | exact ⟨c0,c1,c2,c3,b0,b1,b2,b3⟩ | exact ⟨pw_cell_below hb c0,pw_cell_below hb c1,pw_cell_below hb c2,pw_cell_below hb c3,pw_cell_below hb b0,pw_cell_below hb b1,pw_cell_below hb b2,pw_cell_below hb b3⟩) ((go_at_fn 107; refine (hc _).mono ?_; rintro e w' ⟨rfl,hb⟩))
    all_goals
     go_wp2
     go_roundg ((lo + hi) / 2 - lo)
     case measure => omega
     case rel =>
      have I2 : Aside0 ((∀ t,t < lo → cmpP (l.getD t z41).f0 p < 0) ∧ (∀ t,(lo + hi) / 2 ≤ t → t < l.length → 0 ≤ cmpP (l.getD t z41).f0 p)):=⟨⟨I.out.1,fun t ht htn => Int.not_lt.1 fun h => by have:=M.out ((lo + hi) / 2) t ht htn h; rw [Y.out] at this; omega⟩⟩
      exact ⟨lo,(lo + hi) / 2,rfl,by rw [show ((lo : Int) + (hi : Int)) / 2 = (((lo + hi) / 2 : Nat) : Int) by omega],by omega,by omega,Nat.le_refl _,⟨S1.out.drew.later hb⟩,I2⟩
  ·obtain rfl : hi = lo:=by omega
   have ecnt : cnt = hi:=by
    rw [← CN.out]
    exact countP_cut _ l hi hin (fun t ht => decide_eq_true (I.out.1 t ht)) (fun t h3 h4 => decide_eq_false (by have:=I.out.2 t h3 h4; omega))
   subst ecnt
   by_cases hn : cnt < l.length
   ·obtain ⟨ad,X,x,rfl,rx,c0,c1,c2,c3⟩:=ent_at (Kd.C_below HR.out S1.out.below) cnt hn rfl
    generalize hy : l.getD cnt z41 = y at rx c0 c1 c2 c3
    have Y:=Aside0.mk hy
    have RX:=Aside0.mk rx
    have hfc : Aside0 (hasB l p = decide (cmpP y.f0 p = 0)):=⟨by unfold hasB; rw [CN.out,hy,decide_eq_true hn,Bool.true_and]⟩
    clear hy rx
    have hc:=fun W => order_calls y.f0 p (.int .i64 y.f1) (.slice X y.f2.length x) (.string y.f3) (.int .i64 0) (.slice none 0 0) (.string ⟨#[]⟩) rfl rfl rfl rfl rfl rfl W
    by_cases hyx : cmpP y.f0 p = 0
    ·have hyb : (cmpP y.f0 p == 0) = true:=by simp [hyx]
     go_wp2
     go_region_held3 (fun W => W.cell? (ad.add (cnt * 4)) = some (.string y.f0) ∧ W.cell? ⟨(ad.add (cnt * 4)).block,(ad.add (cnt * 4)).off + 1,none⟩ = some (.int .i64 y.f1) ∧ W.cell? ⟨(ad.add (cnt * 4)).block,(ad.add (cnt * 4)).off + 2,none⟩ = some (.slice X y.f2.length x) ∧ W.cell? ⟨(ad.add (cnt * 4)).block,(ad.add (cnt * 4)).off + 3,none⟩ = some (.string y.f3) ∧ W.cell? ⟨w.heap.size,0,none⟩ = some (.string p) ∧ W.cell? ⟨w.heap.size,1,none⟩ = some (.int .i64 0) ∧ W.cell? ⟨w.heap.size,2,none⟩ = some (.slice none 0 0) ∧ W.cell? ⟨w.heap.size,3,none⟩ = some (.string ⟨#[]⟩)) (first | exact ⟨c0,c1,c2,c3,b0,b1,b2,b3⟩ | exact ⟨pw_cell_below hb c0,pw_cell_below hb c1,pw_cell_below hb c2,pw_cell_below hb c3,pw_cell_below hb b0,pw_cell_below hb b1,pw_cell_below hb b2,pw_cell_below hb b3⟩) ((go_at_fn 107; refine (hc _).mono ?_; rintro e w' ⟨rfl,hb⟩))
     all_goals
      go_wp2
      go_ret2
      exact ⟨by rw [← FIN.out,hfc.out]; simp [hyx],(S1.out.drew.later hb).below⟩
    ·have hyb : (cmpP y.f0 p == 0) = false:=by simp [hyx]
     go_wp2
     go_region_held3 (fun W => W.cell? (ad.add (cnt * 4)) = some (.string y.f0) ∧ W.cell? ⟨(ad.add (cnt * 4)).block,(ad.add (cnt * 4)).off + 1,none⟩ = some (.int .i64 y.f1) ∧ W.cell? ⟨(ad.add (cnt * 4)).block,(ad.add (cnt * 4)).off + 2,none⟩ = some (.slice X y.f2.length x) ∧ W.cell? ⟨(ad.add (cnt * 4)).block,(ad.add (cnt * 4)).off + 3,none⟩ = some (.string y.f3) ∧ W.cell? ⟨w.heap.size,0,none⟩ = some (.string p) ∧ W.cell? ⟨w.heap.size,1,none⟩ = some (.int .i64 0) ∧ W.cell? ⟨w.heap.size,2,none⟩ = some (.slice none 0 0) ∧ W.cell? ⟨w.heap.size,3,none⟩ = some (.string ⟨#[]⟩)) (first | exact ⟨c0,c1,c2,c3,b0,b1,b2,b3⟩ | exact ⟨pw_cell_below hb c0,pw_cell_below hb c1,pw_cell_below hb c2,pw_cell_below hb c3,pw_cell_below hb b0,pw_cell_below hb b1,pw_cell_below hb b2,pw_cell_below hb b3⟩) ((go_at_fn 107; refine (hc _).mono ?_; rintro e w' ⟨rfl,hb⟩))
     all_goals
      go_wp2
      go_ret2
      exact ⟨by rw [← FIN.out,hfc.out]; simp [hyx],(S1.out.drew.later hb).below⟩
   ·have hnb : decide ((cnt : Int) < (l.length : Int)) = false:=decide_eq_false (by omega)
    have hnc : decide (cnt < l.length) = false:=decide_eq_false hn
    go_wp2
    refine wp_region_held_drew (S:=fun _ => True) (by kernel_rfl) trivial (fun _ => ?_)
    refine tkH (v:=(.int .i64 cnt)) 0 (some 35) rfl rfl (by kernel_rfl) (by kernel_rfl) (fun _ _ _ h => h) (fun W _ => by go_simp) trivial ?_
    refine tkH (v:=(.int .i64 cnt)) 1 (some 36) rfl rfl (by kernel_rfl) (by kernel_rfl) (fun _ _ _ h => h) (fun W _ => by go_simp) trivial ?_
    refine tkH (v:=(.int .i64 l.length)) 2 (some 37) rfl rfl (by kernel_rfl) (by kernel_rfl) (fun _ _ _ h => h) (fun W _ => by go_simp) trivial ?_
    refine tkH (v:=(.bool false)) 3 (some 38) rfl rfl (by kernel_rfl) (by kernel_rfl) (fun _ _ _ h => h) (fun W _ => by go_simp) trivial ?_
    refine tkH (v:=(.bool false)) 4 (some 39) rfl rfl (by kernel_rfl) (by kernel_rfl) (fun _ _ _ h => h) (fun W _ => by go_simp) trivial ?_
    simp only [Act.put,List.setIfInBounds_toArray,List.set_cons_zero,List.set_cons_succ]
    refine tkUs (fun _ _ _ _ h => h) trivial [(5,40),(6,41),(7,42),(8,43),(9,44),(10,45),(11,46),(12,47)] 3 rfl (by kernel_rfl) ?_
    simp only [skipL,skipP,Act.put,List.setIfInBounds_toArray,List.set_cons_zero,List.set_cons_succ]
    refine tkH (v:=(.bool false)) 13 (some 48) rfl rfl (by kernel_rfl) (by kernel_rfl) (fun _ _ _ h => h) (fun W _ => by go_simp) trivial ?_
    refine tkH (v:=(.int .i64 cnt)) 14 (some 6) rfl rfl (by kernel_rfl) (by kernel_rfl) (fun _ _ _ h => h) (fun W _ => by go_simp) trivial ?_
    refine tkH (v:=(.bool false)) 15 (some 7) rfl rfl (by kernel_rfl) (by kernel_rfl) (fun _ _ _ h => h) (fun W _ => by go_simp) trivial ?_
    simp only [Act.put,List.setIfInBounds_toArray,List.set_cons_zero,List.set_cons_succ]
    refine wpAnyH_done (by kernel_rfl) ?_ _
    go_wp2
    go_ret2
    exact ⟨by rw [← FIN.out]; simp [hasB,CN.out,hn],S1.out.drew.below⟩
open Go.RowKit Go.Proofs.YthhohbidjhcjeaaGreatDoor.Q
theorem u8_eq {a b : UInt8} (h1 : ¬ a < b) (h2 : ¬ b < a) : a = b:=by
 have k1 : ¬ a.toNat < b.toNat:=fun h => h1 (UInt8.lt_iff_toNat_lt.mpr h)
 have k2 : ¬ b.toNat < a.toNat:=fun h => h2 (UInt8.lt_iff_toNat_lt.mpr h)
 exact UInt8.toNat_inj.mp (by omega)
theorem cb_self : ∀ a : List UInt8,Lib.compareBytes a a = 0
 | [] => rfl
 | a :: xs => by simp [Lib.compareBytes,cb_self xs]
theorem cb_neg : ∀ a b : List UInt8,Lib.compareBytes b a = - Lib.compareBytes a b
 | [],[] => rfl
 | [],_ :: _ => rfl
 | _ :: _,[] => rfl
 | a :: xs,b :: ys => by
  simp only [Lib.compareBytes,cb_neg xs ys]
  by_cases h1 : a < b
  ·have h2 : ¬ b < a:=fun h => by have:=UInt8.lt_iff_toNat_lt.mp h1; have:=UInt8.lt_iff_toNat_lt.mp h; omega
   simp [h1,h2]
  ·by_cases h2 : b < a
   ·simp [h1,h2]
   ·simp [h1,h2]
theorem cb_eq : ∀ a b : List UInt8,Lib.compareBytes a b = 0 → a = b
 | [],[],_ => rfl
 | [],_ :: _,h => by simp [Lib.compareBytes] at h
 | _ :: _,[],h => by simp [Lib.compareBytes] at h
 | a :: xs,b :: ys,h => by
  simp only [Lib.compareBytes] at h
  by_cases h1 : a < b
  ·simp [h1] at h
  ·by_cases h2 : b < a
   ·simp [h1,h2] at h
   ·simp only [h1,h2,if_false] at h
    have : a = b:=u8_eq h1 h2
    rw [this,cb_eq xs ys h]
theorem cb_trans : ∀ a b c : List UInt8,Lib.compareBytes a b < 0 → Lib.compareBytes b c < 0 → Lib.compareBytes a c < 0
 | [],[],_,h,_ => by simp [Lib.compareBytes] at h
 | _ :: _,[],_,h,_ => by simp [Lib.compareBytes] at h
 | _,_ :: _,[],_,h => by simp [Lib.compareBytes] at h
 | [],_ :: _,_ :: _,_,_ => by simp [Lib.compareBytes]
 | a :: xs,b :: ys,c :: zs,h,k => by
  simp only [Lib.compareBytes] at h k ⊢
  by_cases h1 : a < b
  ·by_cases k1 : b < c
   ·have : a < c:=UInt8.lt_iff_toNat_lt.mpr (by have:=UInt8.lt_iff_toNat_lt.mp h1; have:=UInt8.lt_iff_toNat_lt.mp k1; omega)
    simp [this]
   ·by_cases k2 : c < b
    ·simp [k1,k2] at k
    ·have : b = c:=u8_eq k1 k2
     subst this
     simp [h1]
  ·by_cases h2 : b < a
   ·simp [h1,h2] at h
   ·have : a = b:=u8_eq h1 h2
    subst this
    simp only [h1,h2,if_false] at h
    by_cases k1 : a < c
    ·simp [k1]
    ·by_cases k2 : c < a
     ·simp [k1,k2] at k
     ·simp only [k1,k2,if_false] at k ⊢
      exact cb_trans xs ys zs h k
theorem cb_less : ∀ a b : List UInt8,Op.bytesLess a b = decide (Lib.compareBytes a b < 0)
 | [],[] => rfl
 | [],_ :: _ => rfl
 | _ :: _,[] => rfl
 | a :: xs,b :: ys => by
  simp only [Lib.compareBytes,Op.bytesLess,cb_less xs ys]
  by_cases h1 : a < b
  ·simp [h1]
  ·by_cases h2 : b < a
   ·have hne : a ≠ b:=fun h => by subst h; exact h1 h2
    simp [h1,h2,hne]
   ·have:=u8_eq h1 h2
    subst this
    simp [h1]
def ltP (a b : ByteArray) : Bool:=Op.bytesLess a.toList b.toList
theorem cmp_lt (a b : ByteArray) : cmpP a b < 0 ↔ ltP a b = true:=by
 unfold cmpP ltP
 rw [cb_less,Go.ByteArray.toList_eq,Go.ByteArray.toList_eq]
 simp
theorem bytes_inj {a b : ByteArray} (h : a.data.toList = b.data.toList) : a = b:=by
 cases a; cases b
 simp only at h
 rw [Array.toList_inj.mp h]
theorem cmp_eq0 (a b : ByteArray) : cmpP a b = 0 ↔ a = b:=by
 unfold cmpP
 exact ⟨fun h => bytes_inj (cb_eq _ _ h),fun h => by rw [h,cb_self]⟩
theorem ltP_trans {a b c : ByteArray} (h : ltP a b = true) (k : ltP b c = true) : ltP a c = true:=(cmp_lt _ _).mp (cb_trans _ _ _ ((cmp_lt _ _).mpr h) ((cmp_lt _ _).mpr k))
theorem ltP_irrefl (a : ByteArray) : ltP a a = false:=by
 cases h : ltP a a with
 | false => rfl
 | true => have:=(cmp_lt _ _).mpr h; unfold cmpP at this; rw [cb_self] at this; omega
theorem ltP_asymm {a b : ByteArray} (h : ltP a b = true) : ltP b a = false:=by
 cases k : ltP b a with
 | false => rfl
 | true => have:=ltP_trans h k; rw [ltP_irrefl] at this; cases this
theorem ltP_total {a b : ByteArray} (h : ltP a b = false) (hne : a ≠ b) : ltP b a = true:=by
 refine (cmp_lt _ _).mp ?_
 have h1 : ¬ cmpP a b < 0:=fun k => by rw [(cmp_lt _ _).mp k] at h; cases h
 have h2 : ¬ cmpP a b = 0:=fun k => hne ((cmp_eq0 _ _).mp k)
 have h3 : cmpP b a = - cmpP a b:=cb_neg _ _
 omega
def Srt (l : List S41) : Prop:=l.Pairwise (fun x y => ltP x.f0 y.f0 = true)
def findV (l : List S41) (p : ByteArray) : Option S41:=l.find? (fun x => decide (x.f0 = p))
theorem srt_get {l : List S41} (h : Srt l) {a b : Nat} (hab : a < b) (hb : b < l.length) : ltP (l.getD a z41).f0 (l.getD b z41).f0 = true:=by
 have h2:=List.pairwise_iff_getElem.mp h a b (by omega) hb hab
 simpa [List.getD,List.getElem?_eq_getElem hb,List.getElem?_eq_getElem (show a < l.length by omega)] using h2
theorem srt_mono {l : List S41} (h : Srt l) (p : ByteArray) : Mono l p:=by
 intro a b hab hb hlt
 rcases Nat.lt_or_ge a b with hl | hg
 ·exact (cmp_lt _ _).mpr (ltP_trans (srt_get h hl hb) ((cmp_lt _ _).mp hlt))
 ·rw [show a = b by omega]; exact hlt
theorem lowB_cons (x : S41) (l : List S41) (p : ByteArray) : lowB (x :: l) p = lowB l p + (if ltP x.f0 p = true then 1 else 0):=by
 unfold lowB
 rw [List.countP_cons]
 congr 1
 by_cases h : ltP x.f0 p = true
 ·rw [if_pos h,if_pos (by simpa using (cmp_lt _ _).mpr h)]
 ·rw [if_neg h,if_neg (by simpa using fun k => h ((cmp_lt _ _).mp k))]
theorem lowB_zero {l : List S41} {p : ByteArray} (h : ∀ x ∈ l,ltP x.f0 p = false) : lowB l p = 0:=by
 unfold lowB
 rw [List.countP_eq_zero]
 intro x hx
 have hk : ¬ cmpP x.f0 p < 0:=fun k => by have:=(cmp_lt x.f0 p).mp k; rw [h x hx] at this; cases this
 simpa using hk
theorem srt_cons {x : S41} {l : List S41} : Srt (x :: l) ↔ (∀ y ∈ l,ltP x.f0 y.f0 = true) ∧ Srt l:=List.pairwise_cons
theorem has_find : ∀ {l : List S41},Srt l → ∀ p,hasB l p = (findV l p).isSome ∧ (∀ x,findV l p = some x → l.getD (lowB l p) z41 = x ∧ lowB l p < l.length)
 | [],_,p => ⟨rfl,fun x h => by simp [findV] at h⟩
 | y :: l,h,p => by
  obtain ⟨hy,hl⟩:=srt_cons.mp h
  obtain ⟨ih1,ih2⟩:=has_find hl p
  by_cases hlt : ltP y.f0 p = true
  ·have hne : y.f0 ≠ p:=fun k => by rw [k,ltP_irrefl] at hlt; cases hlt
   have hf : findV (y :: l) p = findV l p:=by unfold findV; rw [List.find?_cons_of_neg (by simpa using hne)]
   have hlo : lowB (y :: l) p = lowB l p + 1:=by rw [lowB_cons,if_pos hlt]
   have hg : (y :: l).getD (lowB l p + 1) z41 = l.getD (lowB l p) z41:=by simp [List.getD]
   refine ⟨?_,fun x hx => ?_⟩
   ·rw [hf,← ih1]
    unfold hasB
    rw [hlo,hg]
    simp
   ·rw [hf] at hx
    rw [hlo,hg]
    exact ⟨(ih2 x hx).1,by simpa using (ih2 x hx).2⟩
  ·have hlo : lowB (y :: l) p = 0:=lowB_zero (fun x hx => by
    rcases List.mem_cons.mp hx with rfl | hx
    ·simpa using hlt
    ·cases k : ltP x.f0 p with
     | false => rfl
     | true => exact absurd (ltP_trans (hy x hx) k) hlt)
   by_cases he : y.f0 = p
   ·have hf : findV (y :: l) p = some y:=by unfold findV; rw [List.find?_cons_of_pos (by simpa using he)]
    refine ⟨?_,fun x hx => ?_⟩
    ·rw [hf]
     unfold hasB
     rw [hlo]
     simp [he,(cmp_eq0 p p).mpr rfl]
    ·rw [hf] at hx
     rw [hlo,Option.some.inj hx]
     simp
   ·have hgt : ltP p y.f0 = true:=ltP_total (by simpa using hlt) he
    have hnone : findV (y :: l) p = none:=by
     unfold findV
     rw [List.find?_eq_none]
     intro x hx
     rcases List.mem_cons.mp hx with rfl | hx
     ·simpa using he
     ·have ht:=ltP_trans hgt (hy x hx)
      have hk : ¬ x.f0 = p:=fun k => by rw [k,ltP_irrefl] at ht; cases ht
      simpa using hk
    refine ⟨?_,fun x hx => by rw [hnone] at hx; cases hx⟩
    rw [hnone]
    unfold hasB
    rw [hlo]
    have : ¬ cmpP y.f0 p = 0:=fun k => he ((cmp_eq0 _ _).mp k)
    simp [this]
end Go.Proofs.YthhohbidjhcjeaaGreatDoor.H
