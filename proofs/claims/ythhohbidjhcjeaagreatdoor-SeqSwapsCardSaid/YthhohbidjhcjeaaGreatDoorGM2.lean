/- Contracts of strings.IndexRune and ContainsRune on the letters of paths, at every rune, and of path.part's predicate. Contracts of path.part and path.Right. The contract of the iterator of strings.SplitSeq over a sign: it hands the pieces between the signs, one behind the other. The contract of path.Right: whatever text it is given, it tells whether that is a path. The contracts of path.Right and lines.Right, in the form that printed callers ask. -/
import Derived.Test.YthhohbidjhcjeaaGreatDoorGM1
import Derived.Laws.Runes
import Derived.Laws.RangeAny
import Derived.Shelf.Strings.FuncGrows
import Derived.Lib.OthersKept
import Derived.Deep.LoopGhost
import Derived.WalkKit
import Derived.WalkMore
import Derived.Tactics
import Derived.KernelRfl
import Derived.Lib.IndexLaws
import Derived.Shelf.Abstract
import Derived.Shelf.RegionOpen
import Derived.OwnWalkIn
import Derived.TacticsInMore
import Derived.LoopNIn
import Derived.LoopIn
import Derived.Outline
import Derived.Lib.Hide
import Derived.RangeFuncCalls
import Derived.RangeFuncLeaves
import Derived.Test.YthhohbidjhcjeaaGreatDoorGWd
import Derived.Deep.RegionWith
import Derived.Laws.Strings
namespace Go.Proofs.YthhohbidjhcjeaaGreatDoor.H
open Go.RowKit Go.Lib Go.Shelf
def letters : ByteArray:=⟨#[97,98,99,100,101,102,103,104,105,106,107,108,109,110,111,112,113,114,115,116,117,118,119,120,121,122,48,49,50,51,52,53,54,55,56,57,46,95,45]⟩
theorem letters_low : ∀ b ∈ letters.data.toList,b.toNat < 128:=by decide +kernel
theorem letters_size : letters.size = 39:=by decide +kernel
theorem letters_decode : ∀ p,p < 39 → (Utf8.decode letters p).1 < 128 ∧ (Utf8.decode letters p).2 = 1:=by decide +kernel
theorem indexByte_none (l : List UInt8) (c : UInt8) (h : ∀ b ∈ l,b.toNat < 128) (hc : 128 ≤ c.toNat) : Lib.indexByte l c = -1:=by
 induction l with
 | nil => rfl
 | cons b l ih =>
  have hb : (b == c) = false:=by
   have h1:=h b (by simp)
   simp only [beq_eq_false_iff_ne,ne_eq]
   rintro rfl
   omega
  rw [Lib.indexByte,hb,ih (fun x hx => h x (by simp [hx]))]
  rfl

set_option maxHeartbeats 2000000 in
set_option maxRecDepth 1000000 in
theorem indexRune_bad (r : Int) (h1 : 128 ≤ r) (hb : Lib.validRune r = false) (w : World) :
  Calls Tryz.prog 177 #[.string letters,.int .i32 r] w fun e w' => e = .returned (.int .i64 (-1)) ∧ Below w.heap.size w w':=by
 have h2 : r ≠ 65533:=by rintro rfl; revert hb; decide
 go_enter Tryz.func177,Tryz.ntmps177
 go_wp2_with (go_at_call 193; refine (Tryz.utf8_ValidRune _ _).mono ?_; rintro e w' ⟨rfl,rfl⟩; rw [hb])
 go_ret
 exact ⟨rfl,Below.refl _ _⟩
set_option maxHeartbeats 2000000 in
set_option maxRecDepth 1000000 in
theorem indexRune_error (w : World) :
  Calls Tryz.prog 177 #[.string letters,.int .i32 65533] w fun e w' => e = .returned (.int .i64 (-1)) ∧ Below w.heap.size w w':=by
 obtain ⟨s,hs⟩ : ∃ s,letters = s:=⟨_,rfl⟩
 have hsz : s.size = 39:=by rw [← hs]; exact letters_size
 have hd:=letters_decode
 rw [hs] at hd
 rw [hs]
 clear hs
 go_enter Tryz.func177,Tryz.ntmps177
 go_wp2
 go_loopg [] s.size (fun gf wx => ∃ pos : Nat,wx.heap[w.heap.size]? = some (.stringIter s pos) ∧ Below w.heap.size w wx ∧ s.size ≤ pos + gf)
 case atStart => exact ⟨0,World.iter_heap w s 0,(Below.refl _ w).alloc (Nat.le_refl _) _,by omega⟩
 case round =>
  obtain ⟨pos,hit,hbw,hfu⟩:=hrel
  by_cases hps : pos < s.size
  ·obtain ⟨g',rfl⟩ : ∃ g',gk = g' + 1:=⟨gk - 1,by omega⟩
   have hnx : ∀ ty,(Instr.next (.pointer (some ⟨w.heap.size,0,none⟩)) true ty).run Tryz.prog wr = _:=fun ty => Lib.run_next_any_at wr w.heap.size s pos ty hit hps
   obtain ⟨hd1,hd2⟩:=hd pos (by omega)
   obtain ⟨R,hR⟩ : ∃ R,(Utf8.decode s pos).1 = R:=⟨_,rfl⟩
   rw [hR] at hnx hd1
   rw [hd2] at hnx
   have hit2:=Lib.iterAt_heap wr w.heap.size s pos (pos + 1) hit
   have hbw2:=Lib.below_iterAt hbw (k:=w.heap.size) (Nat.le_refl _) s (pos + 1)
   obtain ⟨W,hWd⟩ : ∃ W,wr.iterAt w.heap.size s (pos + 1) = W:=⟨_,rfl⟩
   rw [hWd] at hnx hit2 hbw2
   have hne : ((R : Int) == 65533) = false:=by simp; omega
   go_wp2
   go_roundg g'
   case measure => omega
   case rel => exact ⟨pos + 1,hit2,hbw2,by omega⟩
  ·have hnx : ∀ ty,(Instr.next (.pointer (some ⟨w.heap.size,0,none⟩)) true ty).run Tryz.prog wr = _:=fun ty => Lib.run_next_end_at wr w.heap.size s pos ty hit hps
   go_wp2
   go_ret
   exact ⟨rfl,hbw⟩

set_option maxHeartbeats 2000000 in
set_option maxRecDepth 1000000 in
theorem indexRune_valid (r : Int) (h1 : 128 ≤ r) (h2 : r ≠ 65533) (hv : Lib.validRune r = true) (w : World) :
  Calls Tryz.prog 177 #[.string letters,.int .i32 r] w fun e w' => e = .returned (.int .i64 (-1)) ∧ Below w.heap.size w w':=by
 obtain ⟨s,hs⟩ : ∃ s,letters = s:=⟨_,rfl⟩
 have hsz : s.size = 39:=by rw [← hs]; exact letters_size
 have hlow:=letters_low
 rw [hs] at hlow
 rw [hs]
 clear hs
 obtain ⟨e2,e4,elast⟩:=encode_facts r (by rw [validRune_eq]; exact hv) h1
 obtain ⟨E,hE⟩ : ∃ E,Utf8.encode r = E:=⟨_,rfl⟩
 rw [hE] at e2 e4 elast
 obtain ⟨n,hn⟩ : ∃ n,E.size = n + 1:=⟨E.size - 1,by omega⟩
 have hn1 : 1 ≤ n:=by omega
 have hn3 : n ≤ 3:=by omega
 have hlt : n < E.size:=by omega
 have hla : 128 ≤ (E[n]'hlt).toNat:=by
  have h:=elast (by omega)
  have e : E.size - 1 = n:=by omega
  simpa only [e] using h
 clear elast e2 e4
 obtain ⟨c,hc⟩ : ∃ c,E[n]'hlt = c:=⟨_,rfl⟩
 rw [hc] at hla
 have hsn : n < s.size:=by omega
 obtain ⟨b,hb⟩ : ∃ b,s[n]'hsn = b:=⟨_,rfl⟩
 have hbl : b.toNat < 128:=by
  rw [← hb]
  exact hlow _ (Array.getElem_mem_toList (xs:=s.data) hsn)
 have ix1 : ∀ W,(Instr.index 9 (.string s) (.int .i64 (n : Int))).run Tryz.prog W = .ok (.int .u8 b.toNat) W:=fun W => by
  rw [run_index_string W 9 s .i64 _ Tryz.underlying9,dif_pos ⟨by omega,by omega⟩]
  simp only [Int.toNat_natCast,hb]
 have ix2 : ∀ W,(Instr.index 9 (.string E) (.int .i64 (n : Int))).run Tryz.prog W = .ok (.int .u8 c.toNat) W:=fun W => by
  rw [run_index_string W 9 E .i64 _ Tryz.underlying9,dif_pos ⟨by omega,by omega⟩]
  simp only [Int.toNat_natCast,hc]
 have cIB : ∀ (a e : Nat) (W : World),Calls Tryz.prog 192 #[.string (s.extract a e),.int .u8 (c.toNat : Int)] W fun e w' => e = .returned (.int .i64 (-1)) ∧ w' = W:=fun a e W => by
  have h:=Tryz.strings_IndexByte (s.extract a e) (c.toNat : Int) W
  rw [indexByte_none _ _ (fun x hx => hlow x (mem_extract hx)) (by simpa using hla)] at h
  exact h
 have hbc : (((b.toNat : Int)) == (c.toNat : Int)) = false:=by simp only [beq_eq_false_iff_ne,ne_eq]; omega
 have hbc' : (((b.toNat : Int)) != (c.toNat : Int)) = true:=by simp only [bne_iff_ne,ne_eq]; omega
 have hwr : IntKind.i64.wrap ((n : Int) + 1) = (n : Int) + 1:=wrap_small _ (by omega) (by omega)
 have hsl : ∀ W,(Instr.slice 9 (.string s) (some (.int .i64 (IntKind.i64.wrap ((n : Int) + 1)))) none none).run Tryz.prog W = .ok (.string (s.extract (n + 1) s.size)) W:=fun W => by
  rw [hwr,run_slice_string_from_if W 9 s .i64 _ Tryz.underlying9,if_pos ⟨by omega,by omega⟩]
  rfl
 clear hwr
 have hlen : (n : Int) < 39:=by omega
 have hs21 : (Tryz.prog.underlying 21).isSome = true:=by rw [Tryz.underlying21]; rfl
 have hcv : ∀ W,(convert 21 9 (.int .i32 r)).run Tryz.prog W = .ok (.string E) W:=fun W => by rw [run_convert_int_string W 21 9 .i32 r hs21 Tryz.underlying9,hE]
 go_enter Tryz.func177,Tryz.ntmps177
 go_wp2_with (go_at_call 193; refine (Tryz.utf8_ValidRune _ _).mono ?_; rintro e w1 ⟨rfl,hw1⟩; rw [hv,hw1])
 go_step3
 go_wp2
 go_loopg [9] 1 (fun gf v9 wx => v9 = .int .i64 (n : Int) ∧ wx = w)
 case atStart => exact ⟨rfl,rfl⟩
 case round =>
  obtain ⟨rfl,rfl⟩:=hrel
  go_wp2
  go_step3
  go_wp2
  go_region
  all_goals go_wp2
  all_goals go_region_with (go_at_call 192; refine (cIB _ _ _).mono ?_; rintro e w2 ⟨rfl,hw2⟩; rw [hw2])
  all_goals go_wp2
  all_goals simp only [Exit.noGoto_ret,Exit.inBlock,Exit.then]
  all_goals go_ret
  all_goals exact ⟨rfl,by repeat (first | exact Below.refl _ _ | refine Below.drew ?_)⟩

def isLetter (r : Nat) : Bool:=decide (r < 128) && decide (0 ≤ Lib.indexByte letters.data.toList r.toUInt8)
theorem containsRune (r : Nat) (hr : r ≤ 1114111) (w : World) :
  Calls Tryz.prog 147 #[.string letters,.int .i32 (r : Int)] w fun e w' => e = .returned (.bool (isLetter r)) ∧ Below w.heap.size w w':=by
 by_cases h : r < 128
 ·refine (Tryz.strings_ContainsRune_ascii letters (r : Int) w (by omega) (by omega)).mono ?_
  rintro e w' ⟨rfl,rfl⟩
  refine ⟨?_,Below.refl _ _⟩
  simp [isLetter,h]
 ·have hI : Calls Tryz.prog 177 #[.string letters,.int .i32 (r : Int)] w fun e w' => e = .returned (.int .i64 (-1)) ∧ Below w.heap.size w w':=by
   by_cases h2 : (r : Int) = 65533
   ·rw [h2]; exact indexRune_error w
   ·cases hv : Lib.validRune (r : Int) with
    | true => exact indexRune_valid _ (by omega) h2 hv w
    | false => exact indexRune_bad _ (by omega) hv w
  have e0 : isLetter r = false:=by simp [isLetter,h]
  rw [e0]
  go_enter Tryz.func147,Tryz.ntmps147
  go_wp2_with (go_at_call 177; refine hI.mono ?_; rintro e w' ⟨rfl,hb⟩)
  go_ret
  exact ⟨rfl,hb⟩
theorem strange_grows (w : World) : PredGrows Tryz.prog 146 #[] (fun r => !isLetter r) w:=by
 intro W x hx hb
 show Calls Tryz.prog 146 #[.int .i32 (x : Int)] W _
 have hC:=containsRune x hx W
 obtain ⟨s,hs⟩ : ∃ s,letters = s:=⟨_,rfl⟩
 rw [hs] at hC
 unfold letters at hs
 go_enter Tryz.func146,Tryz.ntmps146
 rw [hs]
 go_wp2_with (go_at_call 147; refine hC.mono ?_; rintro e w' ⟨rfl,hb⟩)
 go_ret
 exact ⟨rfl,hb⟩
def strangeB (s : ByteArray) : Bool:=decide (0 ≤ Lib.idxFunc (fun r => !isLetter r) true s)
def partB (s : ByteArray) : Bool:=if s.toList = [] then false else if s.size ≤ 16 then (if s.toList = [46] then false else if s.toList = [46,46] then false else !strangeB s) else false
set_option maxHeartbeats 2000000 in
set_option maxRecDepth 1000000 in
theorem part_calls (s : ByteArray) (w : World) : Calls Tryz.prog 112 #[.string s] w fun e w' => e = .returned (.bool (partB s)) ∧ Below w.heap.size w w':=by
 have hC:=Tryz.strings_ContainsFunc_grows 146 #[] (enters_of Tryz.func146 (by kernel_rfl) rfl) _ s w (strange_grows w)
 have e0 : decide (0 ≤ Lib.idxFunc (fun r => !isLetter r) true s) = strangeB s:=rfl
 rw [e0] at hC
 obtain ⟨b,hb⟩ : ∃ b,strangeB s = b:=⟨_,rfl⟩
 unfold partB
 rw [hb] at hC ⊢
 clear e0 hb
 have hsz : ((s.size : Int) ≤ 16) ↔ s.size ≤ 16:=by omega
 go_enter Tryz.func112,Tryz.ntmps112
 go_wp2_with (go_at_call 145; refine hC.mono ?_; rintro e w' ⟨rfl,hb⟩)
 all_goals go_ret
 all_goals refine ⟨?_,hb⟩
 all_goals simp_all
open Go.RowKit Go.Shelf Go.Proofs.YthhohbidjhcjeaaGreatDoor.RB
attribute [local go_sem] Oper.semAt_some

def pieces (c : UInt8) : List UInt8 → List (List UInt8)
 | [] => [[]]
 | b :: l => if b = c then [] :: pieces c l else match pieces c l with
  | [] => [[b]]
  | p :: r => (b :: p) :: r
theorem pieces_ne (c : UInt8) : ∀ l,pieces c l ≠ []
 | [] => by simp [pieces]
 | b :: l => by
  unfold pieces
  split
  ·simp
  ·split <;> simp
theorem pieces_pos (c : UInt8) (l : List UInt8) : 1 ≤ (pieces c l).length:=by
 have:=pieces_ne c l
 cases h : pieces c l with
 | nil => exact absurd h this
 | cons p r => simp
theorem pieces_none (c : UInt8) : ∀ (l : List UInt8),Lib.indexByte l c = -1 → pieces c l = [l]
 | [],_ => rfl
 | b :: l,h => by
  have hb : ¬ b = c:=fun e => by
   subst e
   simp [Lib.indexByte] at h
  have hl : Lib.indexByte l c = -1:=by
   have hb' : (b == c) = false:=by simpa using hb
   have hg:=Lib.indexByte_ge l c
   rw [Lib.indexByte,hb'] at h
   by_cases e : Lib.indexByte l c = -1
   ·exact e
   ·have e' : (Lib.indexByte l c == -1) = false:=by simpa using e
    simp only [Bool.false_eq_true,if_false,e'] at h
    omega
  rw [pieces,if_neg hb,pieces_none c l hl]
theorem pieces_some (c : UInt8) : ∀ (l : List UInt8) (i : Nat),Lib.indexByte l c = (i : Int) → i < l.length ∧ pieces c l = l.take i :: pieces c (l.drop (i + 1))
 | [],i,h => by simp [Lib.indexByte] at h
 | b :: l,i,h => by
  by_cases hb : b = c
  ·subst hb
   simp only [Lib.indexByte,beq_self_eq_true,if_true] at h
   obtain rfl : i = 0:=by omega
   exact ⟨by simp,by simp [pieces]⟩
  ·have hb' : (b == c) = false:=by simpa using hb
   have hg:=Lib.indexByte_ge l c
   rw [Lib.indexByte,hb'] at h
   by_cases e : Lib.indexByte l c = -1
   ·simp [e] at h
   ·have e' : (Lib.indexByte l c == -1) = false:=by simpa using e
    simp only [Bool.false_eq_true,if_false,e'] at h
    obtain ⟨j,rfl⟩ : ∃ j,i = j + 1:=⟨i - 1,by omega⟩
    obtain ⟨h1,h2⟩:=pieces_some c l j (by omega)
    exact ⟨by simp; omega,by rw [pieces,if_neg hb,h2]; rfl⟩
theorem pieces_len (c : UInt8) : ∀ l,(pieces c l).length ≤ l.length + 1
 | [] => by simp [pieces]
 | b :: l => by
  have:=pieces_len c l
  unfold pieces
  split
  ·simpa using this
  ·split
   ·simp
   ·rename_i p r h
    rw [h] at this
    simp at this ⊢
    omega

def KpS (Bp Bs Bv : Nat) (W W' : World) : Prop:=W'.heap[Bp]? = W.heap[Bp]? ∧ W'.heap[Bs]? = W.heap[Bs]? ∧ W'.heap[Bv]? = W.heap[Bv]?
theorem boxed_of {W W' : World} {B : Nat} {t : TypeId} {v : Value} (h : Boxed W B t v) (e : W'.heap[B]? = W.heap[B]?) : Boxed W' B t v:=e.trans h
def lsS (ys : List ByteArray) : List (List UInt8):=ys.map (fun y => y.data.toList)

def sizeAt (B : Nat) (w : World) : Nat:=match w.cell? ⟨B,0,none⟩ with
 | some (.string s) => s.size
 | _ => 0
theorem sizeAt_of {B : Nat} {w : World} {s : ByteArray} (h : Boxed w B 9 (.string s)) : sizeAt B w = s.size:=by rw [sizeAt,h.cell]
set_option maxRecDepth 100000 in
set_option maxHeartbeats 2000000 in
theorem split_stops (n : Nat) (hn : 1 ≤ n) (Bp Bs Bv : Nat) (h1 : Bp ≠ Bs) (h2 : Bv ≠ Bs) (c : UInt8) (s : ByteArray) (w : World) (hs : s.size ≤ 140737488355328)
  (bp : Boxed w Bp 9 (.string ⟨#[c]⟩)) (bs : Boxed w Bs 9 (.string s)) (bv : Boxed w Bv 3 (.int .i64 0)) :
  SeqZ Fence.wide n Tryz.prog 174 #[.pointer (some ⟨Bp,0,none⟩),.pointer (some ⟨Bs,0,none⟩),.pointer (some ⟨Bv,0,none⟩)] (fun y : ByteArray => #[.string y]) (KpS Bp Bs Bv) (fun r => r = Bs)
   (fun ys => lsS ys = pieces c s.data.toList) (fun pre => lsS pre <+: pieces c s.data.toList) (pieces c s.data.toList).length w:=by
 intro l J Jx W hW hJ hJx hY h0
 replace bp : Boxed W Bp 9 (.string ⟨#[c]⟩):=(hW.block _ bp.lt).trans bp
 replace bs : Boxed W Bs 9 (.string s):=(hW.block _ bs.lt).trans bs
 replace bv : Boxed W Bv 3 (.int .i64 0):=(hW.block _ bv.lt).trans bv
 clear hW
 show CallsIn Fence.wide n Tryz.prog 174 #[.func (.yield l) #[] #[],.pointer (some ⟨Bp,0,none⟩),.pointer (some ⟨Bs,0,none⟩),.pointer (some ⟨Bv,0,none⟩)] W _
 refine callsIn_of_wp Tryz.func174 rfl trivial ?_ rfl
 simp only [Tryz.ntmps174,List.size_toArray,List.length_cons,List.length_nil,Nat.reduceAdd,Nat.reduceSub,Array.replicate_succ,Array.replicate_zero,List.push_toArray,List.append_toArray,List.nil_append,List.cons_append]
 have cp:=bp.cell
 gi_wp2
 gi_loopw [] (fun wr => ∃ (cur : ByteArray) (pre : List ByteArray),J pre wr ∧ Boxed wr Bp 9 (.string ⟨#[c]⟩) ∧ Boxed wr Bs 9 (.string cur) ∧ Boxed wr Bv 3 (.int .i64 0) ∧ cur.size ≤ 140737488355328 ∧ lsS pre ++ pieces c cur.data.toList = pieces c s.data.toList)
  (fun wr => sizeAt Bs wr)
 case atStart => exact ⟨s,[],h0,bp,bs,bv,hs,rfl⟩
 case round =>
  clear bp bs bv cp h0 hs
  obtain ⟨cur,pre,hJ0,bp,bs,bv,hc,hpc⟩:=hrel
  have cp:=bp.cell
  have cs:=bs.cell
  have cv:=bv.cell
  have fs:=bs.frozen
  have hlen : pre.length + (pieces c cur.data.toList).length = (pieces c s.data.toList).length:=by rw [← hpc]; simp [lsS]
  have hI:=Tryz.strings_Index_one cur c
  by_cases hi : Lib.indexByte cur.data.toList c = -1
  ·rw [hi] at hI
   have hp1:=pieces_none c _ hi
   obtain ⟨fn,tmps,assign,body,hy,hR⟩:=hY pre cur wr hJ0 (by rw [hp1] at hlen; simp at hlen; omega)
   have HPC:=Lib.hid hpc
   clear hpc hlen
   gi_wp2_with (refine ⟨trivial,?_⟩; gi_at_call 149; refine (callsIn_wide.2 (hI _)).mono ?_; rintro e w1 ⟨rfl,hw1⟩; rw [hw1])
   refine hR.mono ?_
   rintro e W3 (⟨rfl,hJ3,hk3⟩ | ⟨rfl,hJx3⟩)
   ·gi_wp2
    go_end0
    exact ⟨⟨_,rfl⟩,.inl ⟨pre ++ [cur],by rw [← HPC.out,hp1]; simp [lsS],hJ3⟩⟩
   ·gi_wp2
    go_end0
    exact ⟨⟨_,rfl⟩,.inr ⟨pre ++ [cur],by rw [← HPC.out,hp1]; simp [lsS],hJx3⟩⟩
  ·obtain ⟨i,hi'⟩ : ∃ i : Nat,Lib.indexByte cur.data.toList c = (i : Int):=⟨(Lib.indexByte cur.data.toList c).toNat,by have:=Lib.indexByte_ge cur.data.toList c; omega⟩
   clear hi
   rw [hi'] at hI
   obtain ⟨hil,hp1⟩:=pieces_some c _ i hi'
   clear hi'
   have hil' : i < cur.size:=by rw [Array.length_toList] at hil; exact hil
   clear hil
   have t1 : (cur.extract 0 i).data.toList = cur.data.toList.take i:=by simp
   have t2 : (cur.extract (i + 1) cur.size).data.toList = cur.data.toList.drop (i + 1):=by
    simp only [ByteArray.data_extract,Array.toList_extract]
    exact List.take_of_length_le (by simp)
   rw [← t1,← t2] at hp1
   have tz : (cur.extract (i + 1) cur.size).size = cur.size - (i + 1):=by simp
   clear t1 t2
   obtain ⟨fn,tmps,assign,body,hy,hR⟩:=hY pre (cur.extract 0 i) wr hJ0 (by
    rw [hp1] at hlen
    have:=pieces_pos c (cur.extract (i + 1) cur.size).data.toList
    simp only [List.length_cons] at hlen
    omega)
   have hw0 : IntKind.i64.wrap (i : Int) = (i : Int):=wrap_small _ (by omega) (by omega)
   have hw1 : IntKind.i64.wrap ((i : Int) + 1) = (i : Int) + 1:=wrap_small _ (by omega) (by omega)
   have sl1 : ∀ W,(Instr.slice 9 (.string cur) none (some (.int .i64 (IntKind.i64.wrap (i : Int)))) none).run Tryz.prog W = .ok (.string (cur.extract 0 i)) W:=fun W => by
    rw [hw0,run_slice_string_to_if W 9 cur .i64 _ Tryz.underlying9,if_pos ⟨by omega,by omega⟩,Int.toNat_natCast]
   have sl2 : ∀ W,(Instr.slice 9 (.string cur) (some (.int .i64 (IntKind.i64.wrap ((i : Int) + 1)))) none none).run Tryz.prog W = .ok (.string (cur.extract (i + 1) cur.size)) W:=fun W => by
    rw [hw1,run_slice_string_from_if W 9 cur .i64 _ Tryz.underlying9,if_pos ⟨by omega,by omega⟩]
    rfl
   clear hw0 hw1
   have HPC:=Lib.hid hpc
   have HP1:=Lib.hid hp1
   clear hpc hlen hp1
   gi_wp2_with (refine ⟨trivial,?_⟩; gi_at_call 149; refine (callsIn_wide.2 (hI _)).mono ?_; rintro e w1 ⟨rfl,hw1⟩; rw [hw1])
   refine hR.mono ?_
   rintro e W3 (⟨rfl,hJ3,hk3⟩ | ⟨rfl,hJx3⟩)
   ·have bp3:=boxed_of bp hk3.1
    have bs3:=boxed_of bs hk3.2.1
    have bv3:=boxed_of bv hk3.2.2
    have cp3:=bp3.cell
    have cs3:=bs3.cell
    have fs3:=bs3.frozen
    gi_wp2
    go_roundw
    case rel => exact ⟨cur.extract (i + 1) cur.size,pre ++ [cur.extract 0 i],hJ _ _ _ _ hJ3 (grownBy_setCell' _ _ _) (fun r e => .inr (Option.some.inj e).symm),bp3.other h1 _,bs3.set _,bv3.other h2 _,by omega,by rw [← HPC.out,HP1.out]; simp [lsS]⟩
    case measure => rw [sizeAt_of (bs3.set _),sizeAt_of bs]; omega
   ·gi_wp2
    refine bodyPost_ret (results_none rfl _ _ _) rfl ?_
    exact ⟨⟨_,rfl⟩,.inr ⟨pre ++ [cur.extract 0 i],by rw [← HPC.out,HP1.out]; simp [lsS],hJx3⟩⟩
end Go.Proofs.YthhohbidjhcjeaaGreatDoor.H
namespace Go.Proofs.YthhohbidjhcjeaaGreatDoor.H
open Go.RowKit Go.Shelf Go.Proofs.YthhohbidjhcjeaaGreatDoor.RB
attribute [local go_sem] Oper.semAt_some

def rightB (s : ByteArray) : Bool:=(pieces 47 s.data.toList).all (fun y => partB ⟨y.toArray⟩) && decide ((pieces 47 s.data.toList).length ≤ 8)
theorem splitSeq1_in (n : Nat) (s sep : ByteArray) (w : World) :
  CallsIn Fence.wide n Tryz.prog 144 #[.string s,.string sep,.int .i64 0] w fun e w' => e = .returned (.func (.func 174) #[] #[.pointer (some ⟨w.heap.size + 1,0,none⟩),.pointer (some ⟨w.heap.size,0,none⟩),.pointer (some ⟨w.heap.size + 2,0,none⟩)]) ∧
   w' = ((w.alloc (.cells #[.string s] 9)).alloc (.cells #[.string sep] 9)).alloc (.cells #[.int .i64 0] 3):=by
 refine callsIn_of_wp Tryz.func144 rfl trivial ?_ rfl
 simp only [Tryz.ntmps144,List.size_toArray,List.length_cons,List.length_nil,Nat.reduceAdd,Nat.reduceSub,Array.replicate_succ,Array.replicate_zero,List.push_toArray,List.append_toArray,List.nil_append,List.cons_append]
 gi_wp2
 go_ret
 exact ⟨rfl,rfl⟩
theorem splitSeq_in (n : Nat) (s sep : ByteArray) (w : World) :
  CallsIn Fence.wide n Tryz.prog 111 #[.string s,.string sep] w fun e w' => e = .returned (.func (.func 174) #[] #[.pointer (some ⟨w.heap.size + 1,0,none⟩),.pointer (some ⟨w.heap.size,0,none⟩),.pointer (some ⟨w.heap.size + 2,0,none⟩)]) ∧
   w' = ((w.alloc (.cells #[.string s] 9)).alloc (.cells #[.string sep] 9)).alloc (.cells #[.int .i64 0] 3):=by
 refine callsIn_of_wp Tryz.func111 rfl trivial ?_ rfl
 simp only [Tryz.ntmps111,List.size_toArray,List.length_cons,List.length_nil,Nat.reduceAdd,Nat.reduceSub,Array.replicate_succ,Array.replicate_zero,List.push_toArray,List.append_toArray,List.nil_append,List.cons_append]
 gi_wp2_with (refine ⟨trivial,(by intro h; cases h),?_⟩; gi_at_call 144; refine (splitSeq1_in _ _ _ _).mono ?_; rintro e w1 ⟨rfl,rfl⟩)
 go_ret
 exact ⟨rfl,rfl⟩

set_option maxRecDepth 100000 in
set_option maxHeartbeats 2000000 in
theorem right_in (s : ByteArray) (w : World) (hs : s.size ≤ 140737488355328) :
  CallsIn Fence.wide 6 Tryz.prog 66 #[.string s] w fun e w' => e = .returned (.bool (rightB s)) ∧ Below w.heap.size w w':=by
 refine callsIn_of_wp_marks Tryz.func66 rfl trivial ?_ rfl
 simp only [Tryz.ntmps66,List.size_toArray,List.length_cons,List.length_nil,Nat.reduceAdd,Nat.reduceSub,Array.replicate_succ,Array.replicate_zero,List.push_toArray,List.append_toArray,List.nil_append,List.cons_append]
 gi_wp2_with (refine ⟨trivial,?_⟩; gi_at_call 111; refine (splitSeq_in _ _ _ _).mono ?_; rintro e w1 ⟨rfl,rfl⟩)
 have bR:=(((((Boxed.new w 4 (.bool false)).alloc (.cells #[.int .i64 0] 3)).alloc (.cells #[.string s] 9)).alloc (.cells #[.string ⟨#[47]⟩] 9)).alloc (.cells #[.int .i64 0] 3))
 have bN:=((((Boxed.new (w.alloc (.cells #[.bool false] 4)) 3 (.int .i64 0)).alloc (.cells #[.string s] 9)).alloc (.cells #[.string ⟨#[47]⟩] 9)).alloc (.cells #[.int .i64 0] 3))
 have bs:=((Boxed.new ((w.alloc (.cells #[.bool false] 4)).alloc (.cells #[.int .i64 0] 3)) 9 (.string s)).alloc (.cells #[.string ⟨#[47]⟩] 9)).alloc (.cells #[.int .i64 0] 3)
 have bp:=(Boxed.new (((w.alloc (.cells #[.bool false] 4)).alloc (.cells #[.int .i64 0] 3)).alloc (.cells #[.string s] 9)) 9 (.string ⟨#[47]⟩)).alloc (.cells #[.int .i64 0] 3)
 have bv:=Boxed.new ((((w.alloc (.cells #[.bool false] 4)).alloc (.cells #[.int .i64 0] 3)).alloc (.cells #[.string s] 9)).alloc (.cells #[.string ⟨#[47]⟩] 9)) 3 (.int .i64 0)
 simp only [World.size_alloc] at bN bs bp bv
 have hB0 : Below w.heap.size w (((((w.alloc (.cells #[.bool false] 4)).alloc (.cells #[.int .i64 0] 3)).alloc (.cells #[.string s] 9)).alloc (.cells #[.string ⟨#[47]⟩] 9)).alloc (.cells #[.int .i64 0] 3)) :=
  (((((Below.refl _ w).alloc (Nat.le_refl _) _).alloc (by simp) _).alloc (by simp; omega) _).alloc (by simp; omega) _).alloc (by simp; omega) _
 have hsz : (((((w.alloc (.cells #[.bool false] 4)).alloc (.cells #[.int .i64 0] 3)).alloc (.cells #[.string s] 9)).alloc (.cells #[.string ⟨#[47]⟩] 9)).alloc (.cells #[.int .i64 0] 3)).heap.size = w.heap.size + 5:=by simp
 obtain ⟨W0,hW0⟩ : ∃ W0,(((((w.alloc (.cells #[.bool false] 4)).alloc (.cells #[.int .i64 0] 3)).alloc (.cells #[.string s] 9)).alloc (.cells #[.string ⟨#[47]⟩] 9)).alloc (.cells #[.int .i64 0] 3)) = W0:=⟨_,rfl⟩
 rw [hW0] at bR bN bs bp bv hB0 hsz ⊢
 clear hW0
 have hpl:=pieces_len 47 s.data.toList
 have hsl : s.data.toList.length = s.size:=by rw [Array.length_toList]; rfl
 refine wpIn_rangeFunc_boxes (F:=Fence.wide) (α:=ByteArray) (Z:=fun r => r = w.heap.size + 1 + 1) rfl (by omega) (gf:=174)
  (lb:=#[.pointer (some ⟨w.heap.size + 1 + 1 + 1,0,none⟩),.pointer (some ⟨w.heap.size + 1 + 1,0,none⟩),.pointer (some ⟨w.heap.size + 1 + 1 + 2,0,none⟩)]) rfl trivial (enters_of Tryz.func174 (by kernel_rfl) rfl)
  (split_stops 5 (by omega) (w.heap.size + 1 + 1 + 1) (w.heap.size + 1 + 1) (w.heap.size + 1 + 1 + 2) (by omega) (by omega) 47 s W0 hs bp bs bv) (fun r e => by omega) ?kt ?kb (Below.refl _ _) (fun _ => rfl)
  (fun pre W => Boxed W w.heap.size 4 (.bool false) ∧ Boxed W (w.heap.size + 1) 3 (.int .i64 (pre.length : Int)) ∧ (∀ y ∈ pre,partB y = true) ∧ Below w.heap.size w W ∧ w.heap.size + 5 ≤ W.heap.size)
  (fun _ pre W => Boxed W w.heap.size 4 (.bool false) ∧ (∃ y ∈ pre,partB y = false) ∧ Below w.heap.size w W)
  ?own ?ownx ⟨bR,bN,by simp,hB0,by omega⟩
  (fun x => { tmps:=#[.string s,undef,.pointer (some ⟨w.heap.size,0,none⟩),.pointer (some ⟨w.heap.size + 1,0,none⟩),.string x,.string s,.func (.func 174) #[] #[.pointer (some ⟨w.heap.size + 1 + 1 + 1,0,none⟩),.pointer (some ⟨w.heap.size + 1 + 1,0,none⟩),.pointer (some ⟨w.heap.size + 1 + 1 + 2,0,none⟩)],.string x,undef,undef,undef,undef,undef,undef,undef],defers:=[] })
  ?assign ?body ?done ?stop
 case kt => exact fun h k => ⟨k.1.trans h.1,k.2.1.trans h.2.1,k.2.2.trans h.2.2⟩
 case kb => exact fun W l o o' hl _ _ _ => ⟨World.putObj_heap_other (by omega),World.putObj_heap_other (by omega),World.putObj_heap_other (by omega)⟩
 case own =>
  rintro pre X Y row ⟨h1,h2,h3,h4,h6⟩ hg hr
  have ne : ∀ B t v,Boxed X B t v → B ≠ w.heap.size + 1 + 1 → some B ≠ row:=fun B t v hb hB e => by
   rcases hr B e.symm with ⟨_,o,ho,hc⟩ | h5
   ·rw [show X.heap[B]? = _ from hb] at ho
    cases ho
    cases hc
   ·exact hB h5
  exact ⟨h1.kept hg (ne _ _ _ h1 (by omega)),h2.kept hg (ne _ _ _ h2 (by omega)),h3,Below.grown h4 hg (by have:=h1.lt; omega) (fun r e => by rcases hr r e with ⟨h5,_⟩ | h5 <;> omega),Nat.le_trans h6 hg.size⟩
 case ownx =>
  rintro _ pre X Y row ⟨h1,h3,h4⟩ hg hr
  have ne : ∀ B t v,Boxed X B t v → B ≠ w.heap.size + 1 + 1 → some B ≠ row:=fun B t v hb hB e => by
   rcases hr B e.symm with ⟨_,o,ho,hc⟩ | h5
   ·rw [show X.heap[B]? = _ from hb] at ho
    cases ho
    cases hc
   ·exact hB h5
  exact ⟨h1.kept hg (ne _ _ _ h1 (by omega)),h3,Below.grown h4 hg (by have:=h1.lt; omega) (fun r e => by rcases hr r e with ⟨h5,_⟩ | h5 <;> omega)⟩
 case assign =>
  intro l x W K hK
  gi_wp2
  exact hK
 case body =>
  rintro l pre x W ⟨h1,h2,h3,h4,h6⟩ hlt
  have hP:=part_calls x
  have c1:=h1.cell
  have f1:=h1.frozen
  have c2:=h2.cell
  have f2:=h2.frozen
  have hw : IntKind.i64.wrap ((pre.length : Int) + 1) = ((pre ++ [x]).length : Int):=by
   rw [wrap_small _ (by omega) (by omega)]
   simp
  cases hb : partB x with
  | false =>
   rw [hb] at hP
   gi_wp2_with (refine ⟨trivial,?_⟩; gi_at_call 112; refine (CallsIn.inRound l (callsIn_wide.2 (hP _))).mono ?_; rintro e w1 ⟨rfl,hb1⟩; have g1:=boxed_of h1 (hb1.block _ h1.lt); have c3:=g1.cell; have f3:=g1.frozen)
   have hke : KeepsOthers W w1:=⟨hb1.size,fun k o hk _ => (hb1.block k (Array.getElem?_eq_some_iff.1 hk).1).trans hk⟩
   refine ⟨(hke.trans (KeepsOthers.setCell _ _ _)).from _,g1.set _,⟨x,by simp,hb⟩,?_⟩
   refine Below.setCell (p:=⟨w.heap.size,0,none⟩) ?_ (Nat.le_refl _) _
   exact h4.trans (hb1.mono h4.size)
  | true =>
   rw [hb] at hP
   gi_wp2_with (refine ⟨trivial,?_⟩; gi_at_call 112; refine (CallsIn.inRound l (callsIn_wide.2 (hP _))).mono ?_; rintro e w1 ⟨rfl,hb1⟩; have g1:=boxed_of h1 (hb1.block _ h1.lt); have g2:=boxed_of h2 (hb1.block _ h2.lt); have c3:=g2.cell; have f3:=g2.frozen)
   have hke : KeepsOthers W w1:=⟨hb1.size,fun k o hk _ => (hb1.block k (Array.getElem?_eq_some_iff.1 hk).1).trans hk⟩
   have hsz1:=hb1.size
   have far : ∀ k,k < w.heap.size + 5 → k ≠ w.heap.size + 1 → ∀ v,(w1.setCell ⟨w.heap.size + 1,0,none⟩ v).heap[k]? = W.heap[k]?:=fun k hk hne v =>
    ((grownBy_setCell' w1 (w.heap.size + 1) v).block k (by omega) (by simp; omega)).trans (hb1.block k (by omega))
   refine ⟨(hke.trans (KeepsOthers.setCell _ _ _)).from _,⟨far _ (by omega) (by omega) _,far _ (by omega) (by omega) _,far _ (by omega) (by omega) _⟩,g1.other (by omega) _,?_,?_,?_,?_⟩
   ·have e : ((pre ++ [x]).length : Int) = (pre.length : Int) + 1:=by simp
    rw [e]
    exact g2.set _
   ·intro y hy
    rcases List.mem_append.1 hy with hy | hy
    ·exact h3 y hy
    ·rw [List.mem_singleton.1 hy]; exact hb
   ·refine Below.setCell (p:=⟨w.heap.size + 1,0,none⟩) ?_ (Nat.le_succ _) _
    exact h4.trans (hb1.mono h4.size)
   ·rw [World.size_setCell]
    omega
 case done =>
  rintro D xs W hD hS ⟨h1,h2,h3,h4,h6⟩ hdf
  have c1:=h1.cell
  have f1:=h1.frozen
  have c2:=h2.cell
  have hr : rightB s = decide ((xs.length : Int) ≤ 8):=by
   have e : xs.length = (pieces 47 s.data.toList).length:=by rw [← hS]; simp [lsS]
   have ha : (pieces 47 s.data.toList).all (fun y => partB ⟨y.toArray⟩) = true:=by
    rw [← hS,List.all_eq_true]
    intro y hy
    obtain ⟨z,hz,rfl⟩:=List.mem_map.1 hy
    exact h3 z hz
   rw [rightB,ha,e,Bool.true_and]
   exact decide_eq_decide.2 (by omega)
  gi_wp2
  have hdf2 : (W.setCell ⟨w.heap.size,0,none⟩ (.bool (decide ((xs.length : Int) ≤ 8)))).heap[D]? = some (.deferred (some [])):=((grownBy_setCell' W w.heap.size _).block D (Array.getElem?_eq_some_iff.1 hdf).1 (by simp; omega)).trans hdf
  refine ⟨by simp,.inl ⟨_,_,rfl,run_takeDeferred hdf2,?_⟩⟩
  have bE : Boxed ((W.setCell ⟨w.heap.size,0,none⟩ (.bool (decide ((xs.length : Int) ≤ 8)))).putObj D (.deferred none)) w.heap.size 4 (.bool (decide ((xs.length : Int) ≤ 8))):=(World.putObj_heap_other (by omega)).trans (h1.set _)
  have cE:=bE.cell
  refine ⟨.bool (decide ((xs.length : Int) ≤ 8)),by simp [results,Tryz.results66,go_sem,cE],by rw [hr],?_⟩
  refine Below.trans ?_ (belowK_b (w:=w) (Nat.le_refl _) _ D _ _ (by omega) hdf2 rfl rfl)
  exact Below.setCell (p:=⟨w.heap.size,0,none⟩) h4 (Nat.le_refl _) _
 case stop =>
  rintro D pre W hD hSp ⟨h1,⟨y,hy,hyp⟩,h4⟩ hdf
  have c1:=h1.cell
  have hr : rightB s = false:=by
   have ha : (pieces 47 s.data.toList).all (fun y => partB ⟨y.toArray⟩) = false:=by
    rw [List.all_eq_false]
    refine ⟨y.data.toList,hSp.subset (List.mem_map.2 ⟨y,hy,rfl⟩),?_⟩
    have : (⟨y.data.toList.toArray⟩ : ByteArray) = y:=rfl
    rw [this,hyp]
    simp
   rw [rightB,ha,Bool.false_and]
  gi_wp2
  refine ⟨by simp,.inl ⟨_,_,rfl,run_takeDeferred hdf,?_⟩⟩
  have bE : Boxed (W.putObj D (.deferred none)) w.heap.size 4 (.bool false):=(World.putObj_heap_other (by omega)).trans h1
  have cE:=bE.cell
  refine ⟨.bool false,by simp [results,Tryz.results66,go_sem,cE],by rw [hr],?_⟩
  exact Below.trans h4 (belowK_b (w:=w) (Nat.le_refl _) _ D _ _ (by omega) hdf rfl rfl)
end Go.Proofs.YthhohbidjhcjeaaGreatDoor.H
namespace Go.Proofs.YthhohbidjhcjeaaGreatDoor.H
open Go.RowKit Go.Shelf Go.Proofs.YthhohbidjhcjeaaGreatDoorW.PrintWords Go.Proofs.YthhohbidjhcjeaaGreatDoorW.PrintLast Go.Proofs.YthhohbidjhcjeaaGreatDoorW.PrintMore
def hasNL (s : ByteArray) : Bool:=decide (0 ≤ Lib.indexByte s.data.toList 10)
def linesB (l : List ByteArray) : Bool:=!(l.any hasNL)
theorem lit_calls (s : ByteArray) (w : World) : Calls Tryz.prog 115 #[.string s] w fun e w' => e = .returned (.bool (hasNL s)) ∧ w' = w:=by
 have hC:=Tryz.strings_Contains_one s 10 w
 have e0 : decide (0 ≤ Lib.indexByte s.data.toList 10) = hasNL s:=rfl
 rw [e0] at hC
 obtain ⟨b,hb⟩ : ∃ b,hasNL s = b:=⟨_,rfl⟩
 rw [hb] at hC ⊢
 clear e0 hb
 go_enter Tryz.func115,Tryz.ntmps115
 go_wp2_with (go_at_call 116; refine hC.mono ?_; rintro e w' ⟨rfl,rfl⟩)
 go_ret
 exact ⟨rfl,rfl⟩
set_option maxHeartbeats 1000000 in
theorem index_calls (A : Option Addr) (c : Nat) (l : List ByteArray) (w : World) (h : Kd.C Kd.string w A l.length l) :
  Calls Tryz.prog 148 #[.slice A l.length c,.func (.func 115) #[] #[]] w fun e w' => (∃ i : Int,e = .returned (.int .i64 i) ∧ decide (0 ≤ i) = l.any hasNL) ∧ w' = w:=by
 have hmax:=Kd.C_max h
 have e115 : ∀ args w,(callFunc 115 args).run Tryz.prog w = .ok (.enter 115 args) w:=enters_of Tryz.func115 (by kernel_rfl) rfl
 go_enter Tryz.func148,Tryz.ntmps148
 go_wp2
 go_loopg [8] l.length (fun gf v8 wx => ∃ j : Nat,v8 = .int .i64 (j : Int) ∧ wx = w ∧ j + gf = l.length ∧ (l.take j).any hasNL = false)
 case atStart => exact ⟨0,rfl,rfl,by omega,by simp⟩
 case round =>
  obtain ⟨j,rfl,rfl,hj,hn⟩:=hrel
  by_cases hlt : j < l.length
  ·obtain ⟨g',rfl⟩ : ∃ g',gk = g' + 1:=⟨gk - 1,by omega⟩
   obtain ⟨ad,rfl,hc⟩:=Kd.at_string h (j : Int) (by omega) (by omega)
   rw [Int.toNat_natCast] at hc
   have hx : rdOf ByteArray.empty l (j : Int) = l[j]:=by
    rw [rdOf,Int.toNat_natCast,List.getD_eq_getElem?_getD,List.getElem?_eq_getElem hlt,Option.getD_some]
   rw [hx] at hc
   have ht : (l.take (j + 1)).any hasNL = hasNL l[j]:=by
    rw [List.take_succ_eq_append_getElem hlt,List.any_append,hn]
    simp
   obtain ⟨x,hxx⟩ : ∃ x,l[j] = x:=⟨_,rfl⟩
   rw [hxx] at hc ht
   have hL:=lit_calls x
   cases hb : hasNL x with
   | true =>
    rw [hb] at hL
    go_wp2_with (go_at_fn 115; refine (hL _).mono ?_; rintro e w' ⟨rfl,hw⟩; rw [hw])
    go_ret
    refine ⟨⟨_,rfl,?_⟩,rfl⟩
    have : l.any hasNL = true:=List.any_eq_true.2 ⟨l[j],List.getElem_mem hlt,by rw [hxx,hb]⟩
    rw [this]
    exact decide_eq_true (by omega)
   | false =>
    rw [hb] at hL
    go_wp2_with (go_at_fn 115; refine (hL _).mono ?_; rintro e w' ⟨rfl,hw⟩; rw [hw])
    go_roundg g'
    case measure => omega
    case rel => exact ⟨j + 1,rfl,rfl,by omega,by rw [ht,hb]⟩
  ·have hjl : j = l.length:=by omega
   subst hjl
   go_wp2
   go_ret
   refine ⟨⟨_,rfl,?_⟩,rfl⟩
   rw [List.take_length] at hn
   rw [hn]
   rfl
theorem lines_calls (A : Option Addr) (c : Nat) (l : List ByteArray) (w : World) (h : Kd.C Kd.string w A l.length l) :
  Calls Tryz.prog 69 #[.slice A l.length c] w fun e w' => e = .returned (.bool (linesB l)) ∧ w' = w:=by
 have hC : Calls Tryz.prog 114 #[.slice A l.length c,.func (.func 115) #[] #[]] w fun e w' => e = .returned (.bool (l.any hasNL)) ∧ w' = w:=by
  have hI:=index_calls A c l w h
  obtain ⟨b,hb⟩ : ∃ b,l.any hasNL = b:=⟨_,rfl⟩
  rw [hb] at hI ⊢
  clear h hb
  go_enter Tryz.func114,Tryz.ntmps114
  go_wp2_with (go_at_call 148; refine hI.mono ?_; rintro e w' ⟨⟨i,rfl,hi⟩,rfl⟩)
  all_goals go_ret
  all_goals exact ⟨by simp_all,rfl⟩
 unfold linesB
 obtain ⟨b,hb⟩ : ∃ b,l.any hasNL = b:=⟨_,rfl⟩
 rw [hb] at hC ⊢
 clear h hb
 go_enter Tryz.func69,Tryz.ntmps69
 go_wp2_with (go_at_call 114; refine hC.mono ?_; rintro e w' ⟨rfl,rfl⟩)
 go_ret
 exact ⟨rfl,rfl⟩
end Go.Proofs.YthhohbidjhcjeaaGreatDoor.H
namespace Go.Proofs.YthhohbidjhcjeaaGreatDoor.Q
open Go.RowKit Go.Proofs.YthhohbidjhcjeaaGreatDoorW.PrintWords Go.Proofs.YthhohbidjhcjeaaGreatDoorW.PrintLast Go.Proofs.YthhohbidjhcjeaaGreatDoorW.PrintMore Go.Proofs.YthhohbidjhcjeaaGreatDoor.H
def path_Right.f (a0 : ByteArray) : Option Bool:=if a0.size ≤ 140737488355328 then some (rightB a0) else none
theorem path_Right.calls (a0 : ByteArray) (r : Bool) (w : World) (h : path_Right.f a0 = some r) : Calls Tryz.prog 66 #[.string a0] w fun e w' => e = .returned (.bool r) ∧ Below w.heap.size w w':=by
 unfold path_Right.f at h
 split at h
 ·rename_i hl
  obtain rfl:=Option.some.inj h
  exact callsIn_wide.1 (right_in a0 w hl)
 ·cases h
def lines_Right.f (l0 : List ByteArray) : Option Bool:=some (linesB l0)
theorem lines_Right.calls (A0 : Option Addr) (c0 : Nat) (l0 : List ByteArray) (r : Bool) (w : World) (hr0 : Kd.C Kd.string w A0 l0.length l0) (_hc0 : l0.length ≤ c0) (h : lines_Right.f l0 = some r) :
  Calls Tryz.prog 69 #[.slice A0 l0.length c0] w fun e w' => e = .returned (.bool r) ∧ Drawn0 w w':=by
 obtain rfl:=Option.some.inj h
 refine (lines_calls A0 c0 l0 w hr0).mono ?_
 rintro e w' ⟨rfl,rfl⟩
 exact ⟨rfl,Drawn0.refl _⟩
open Go.RowKit Go.Proofs.YthhohbidjhcjeaaGreatDoorW.PrintWords Go.Proofs.YthhohbidjhcjeaaGreatDoorW.PrintLast Go.Proofs.YthhohbidjhcjeaaGreatDoorW.PrintMore
attribute [local go_sem] max2_int min2_int max_two min_two max_three min_three max_four min_four   -- for this text's walks alone
set_option linter.unusedVariables false
set_option linter.unusedSimpArgs false

mutual
def prim_Right.j0 : Nat → Bool → Int → ByteArray → ByteArray → ByteArray → Int → List ByteArray → List ByteArray → Option (Bool)
 | 0,_,_,_,_,_,_,_,_ => none
 | k + 1,x3,x110000,x110001,x110002,x110003,x110004,x110005,x110006 => (path_Right.f x110001).bind fun t110 => (if t110 = true then (if x3 = true then (prim_Right.j1 k (x110000 != 7) x110000 x110001 x110002 x110003 x110004 x110005 x110006) else (prim_Right.j1 k false x110000 x110001 x110002 x110003 x110004 x110005 x110006)) else (prim_Right.j1 k (!t110) x110000 x110001 x110002 x110003 x110004 x110005 x110006))
def prim_Right.j1 : Nat → Bool → Int → ByteArray → ByteArray → ByteArray → Int → List ByteArray → List ByteArray → Option (Bool)
 | 0,_,_,_,_,_,_,_,_ => none
 | k + 1,x17,x110000,x110001,x110002,x110003,x110004,x110005,x110006 => if x17 = true then (some false) else (if x110000 = 8 then ((lines_Token.f k x110003).bind fun t111 => (if t111 = true then ((lines_Token.f k x110002).bind fun t112 => (if t112 = true then (some (x110003.toList != x110002.toList)) else (some false))) else (some false))) else (if x110000 = 9 then (some (x110003.toList != x110002.toList)) else (if x110003.toList = ([] : List UInt8) then (if x110000 = 10 then ((path_Right.f x110002).bind fun t113 => (if t113 = true then ((path_Apart.f x110001 x110002).bind fun t114 => (some t114)) else (some false))) else (if x110000 = 7 then (if x110002.toList = ([] : List UInt8) then (if x110004 ≥ 0 then (if x110004 ≤ 1073741824 then ((lines_Right.f x110005).bind fun t115 => (if t115 = true then ((lines_Right.f x110006).bind fun t116 => (if t116 = true then (some (decide ((wrap64 ((x110005.length : Int) + (x110006.length : Int))) > 0))) else (some false))) else (some false))) else (some false)) else (some false)) else (some false)) else (if x110002.toList = ([] : List UInt8) then (if x110000 ≥ 1 then (some (decide (x110000 ≤ 6))) else (some false)) else (some false)))) else (some false))))
end
def prim_Right.f (k : Nat) (a0_0 : Int) (a0_1 : ByteArray) (a0_2 : ByteArray) (a0_3 : ByteArray) (a0_4 : Int) (l0_5 : List ByteArray) (l0_6 : List ByteArray) : Option (Bool):=if (wrap64 ((l0_5.length : Int) + (l0_6.length : Int))) > 0 then (prim_Right.j0 k true a0_0 a0_1 a0_2 a0_3 a0_4 l0_5 l0_6) else (prim_Right.j0 k (a0_4 != 0) a0_0 a0_1 a0_2 a0_3 a0_4 l0_5 l0_6)
theorem prim_Right.mono_l : ∀ k,(∀ y0 y1 y2 y3 y4 y5 y6 y7,LeO (prim_Right.j0 k y0 y1 y2 y3 y4 y5 y6 y7) (prim_Right.j0 (k + 1) y0 y1 y2 y3 y4 y5 y6 y7)) ∧ (∀ y0 y1 y2 y3 y4 y5 y6 y7,LeO (prim_Right.j1 k y0 y1 y2 y3 y4 y5 y6 y7) (prim_Right.j1 (k + 1) y0 y1 y2 y3 y4 y5 y6 y7))
 | 0 => ⟨fun _ _ _ _ _ _ _ _ r h => by simp [prim_Right.j0] at h,fun _ _ _ _ _ _ _ _ r h => by simp [prim_Right.j1] at h⟩
 | k + 1 => by
  obtain ⟨ih0,ih1⟩:=prim_Right.mono_l k
  refine ⟨?_,?_⟩
  ·intro y0 y1 y2 y3 y4 y5 y6 y7
   unfold prim_Right.j0
   repeat' first
   | (with_reducible exact ih0 _ _ _ _ _ _ _ _)
   | (with_reducible exact ih1 _ _ _ _ _ _ _ _)
   | (with_reducible exact lines_Token.mono _ _)
   | (with_reducible exact LeO.refl _)
   | (with_reducible exact LeO.none _)
   | (with_reducible refine LeO.ite ?_ ?_)
   | (with_reducible refine LeO.bind ?_ (fun _ => ?_))
   | exact ih0 _ _ _ _ _ _ _ _
   | exact ih1 _ _ _ _ _ _ _ _
   | exact lines_Token.mono _ _
   | exact LeO.none _
   | refine LeO.ite ?_ ?_
   | refine LeO.bind ?_ (fun _ => ?_)
  ·intro y0 y1 y2 y3 y4 y5 y6 y7
   unfold prim_Right.j1
   repeat' first
   | (with_reducible exact ih0 _ _ _ _ _ _ _ _)
   | (with_reducible exact ih1 _ _ _ _ _ _ _ _)
   | (with_reducible exact lines_Token.mono _ _)
   | (with_reducible exact LeO.refl _)
   | (with_reducible exact LeO.none _)
   | (with_reducible refine LeO.ite ?_ ?_)
   | (with_reducible refine LeO.bind ?_ (fun _ => ?_))
   | exact ih0 _ _ _ _ _ _ _ _
   | exact ih1 _ _ _ _ _ _ _ _
   | exact lines_Token.mono _ _
   | exact LeO.none _
   | refine LeO.ite ?_ ?_
   | refine LeO.bind ?_ (fun _ => ?_)
theorem prim_Right.mono : ∀ a0 a1 a2 a3 a4 a5 a6 k,LeO (prim_Right.f k a0 a1 a2 a3 a4 a5 a6) (prim_Right.f (k + 1) a0 a1 a2 a3 a4 a5 a6):=by
 intro a0 a1 a2 a3 a4 a5 a6 k
 obtain ⟨ih0,ih1⟩:=prim_Right.mono_l k
 unfold prim_Right.f
 repeat' first
   | (with_reducible exact ih0 _ _ _ _ _ _ _ _)
   | (with_reducible exact ih1 _ _ _ _ _ _ _ _)
   | (with_reducible exact lines_Token.mono _ _)
   | (with_reducible exact LeO.refl _)
   | (with_reducible exact LeO.none _)
   | (with_reducible refine LeO.ite ?_ ?_)
   | (with_reducible refine LeO.bind ?_ (fun _ => ?_))
   | exact ih0 _ _ _ _ _ _ _ _
   | exact ih1 _ _ _ _ _ _ _ _
   | exact lines_Token.mono _ _
   | exact LeO.none _
   | refine LeO.ite ?_ ?_
   | refine LeO.bind ?_ (fun _ => ?_)
set_option maxHeartbeats 8000000 in
set_option maxRecDepth 100000 in
theorem prim_Right.calls (k : Nat) (a0_0 : Int) (a0_1 : ByteArray) (a0_2 : ByteArray) (a0_3 : ByteArray) (a0_4 : Int) (A0_5 : Option Addr) (c0_5 : Nat) (l0_5 : List ByteArray) (A0_6 : Option Addr) (c0_6 : Nat) (l0_6 : List ByteArray) (r : Bool) (w : World) (hr0_5 : Kd.C Kd.string w A0_5 l0_5.length l0_5) (hc0_5 : l0_5.length ≤ c0_5) (hr0_6 : Kd.C Kd.string w A0_6 l0_6.length l0_6) (hc0_6 : l0_6.length ≤ c0_6) (h : prim_Right.f k a0_0 a0_1 a0_2 a0_3 a0_4 l0_5 l0_6 = some r) :
  Calls Tryz.prog 25 #[.agg #[.int .i64 a0_0,.string a0_1,.string a0_2,.string a0_3,.int .i64 a0_4,.slice A0_5 l0_5.length c0_5,.slice A0_6 l0_6.length c0_6]] w fun e w' => e = .returned (.bool r) ∧ Below w.heap.size w w':=by
 have hu25:=Tryz.underlying25
 have HR0_5:=Aside0.mk hr0_5
 have HC0_5:=Aside0.mk hc0_5
 clear hr0_5 hc0_5
 have HR0_6:=Aside0.mk hr0_6
 have HC0_6:=Aside0.mk hc0_6
 clear hr0_6 hc0_6
 have HB:=Aside0.mk (Below.refl w.heap.size w)
 have H : (if (wrap64 ((l0_5.length : Int) + (l0_6.length : Int))) > 0 then (prim_Right.j0 k true a0_0 a0_1 a0_2 a0_3 a0_4 l0_5 l0_6) else (prim_Right.j0 k (a0_4 != 0) a0_0 a0_1 a0_2 a0_3 a0_4 l0_5 l0_6)) = some r:=h
 clear h
 have HC2:=Aside0.mk H
 clear H
 go_enter Tryz.func25,Tryz.ntmps25
 go_upto_region 1 with (first | ((with_reducible refine gate_dst (N:=1) rfl ?_); (try (refine gate_guard (by rfl) ?_; dsimp only)); refine box_event ?hg (N:=1) ?hd (cs:=#[.int .i64 a0_0,.string a0_1,.string a0_2,.string a0_3,.int .i64 a0_4,.slice A0_5 l0_5.length c0_5,.slice A0_6 l0_6.length c0_6]) (t:=25) ?hr ?_; (case hd => rfl); (case hg => rfl); (case hr => first | (go_simp; done) | (go_simp; rfl)); intro gb109 hg w3 hbox hb; have n0_:=Aside0.mk (below_step (by repeat (first | (with_reducible first | exact HB.out | apply below_alloc | apply pw_below_drewN | apply below_drew1) | exact HB.out)) hb); have n1_:=Aside0.mk (hbox); have n2_:=Aside0.mk ((by rw [hg]; exact (below_size (by repeat (first | (with_reducible first | exact HB.out | apply below_alloc | apply pw_below_drewN | apply below_drew1) | exact HB.out))) : w.heap.size ≤ gb109)); have n3_:=Aside0.mk ((by rw [hg]; exact (below_size (by repeat (first | (with_reducible first | exact HB.out | apply below_alloc | apply pw_below_drewN | apply below_drew1) | exact HB.out))) : w.heap.size ≤ gb109)); clear HB; have HB:=n0_; have BK109:=n1_; have GW109:=n2_; have GE109:=n3_; clear n0_ n1_ n2_ n3_; clear hb hbox hg))
 (try simp only [Act.put,List.setIfInBounds_toArray,List.set_cons_zero,List.set_cons_succ])
 go_cut [3] (fun v3 wc => ∃ (kq : Nat) (x3_1 : Bool),v3 = .bool x3_1 ∧ Aside0 (prim_Right.j0 kq x3_1 a0_0 a0_1 a0_2 a0_3 a0_4 l0_5 l0_6 = some r) ∧ Aside0 (kq ≤ k) ∧ Aside0 (wc.heap[gb109]? = some (.cells #[.int .i64 a0_0,.string a0_1,.string a0_2,.string a0_3,.int .i64 a0_4,(.slice A0_5 l0_5.length c0_5),(.slice A0_6 l0_6.length c0_6)] 25 (0,0))) ∧ Aside0 (Below w.heap.size w wc))
 case first =>
  have H:=HC2.out
  clear HC2
  by_cases c4 : (wrap64 ((l0_5.length : Int) + (l0_6.length : Int))) > 0
  ·rw [if_pos c4] at H
   have c4b0 : decide (0 < (wrap64 ((l0_5.length : Int) + (l0_6.length : Int)))) = true:=decide_eq_true c4
   clear c4
   (first | rw [c4b0] | (simp only [i64_w,i32_w]; rw [c4b0]) | skip)
   have H':=Aside0.mk H
   clear H
   have hcz5_0 : w3.cell? ⟨gb109,0,none⟩ = some (.int .i64 a0_0):=(blk_cell BK109.out 0).trans rfl
   have hcz5_1 : w3.cell? ⟨gb109,1,none⟩ = some (.string a0_1):=(blk_cell BK109.out 1).trans rfl
   have hcz5_2 : w3.cell? ⟨gb109,2,none⟩ = some (.string a0_2):=(blk_cell BK109.out 2).trans rfl
   have hcz5_3 : w3.cell? ⟨gb109,3,none⟩ = some (.string a0_3):=(blk_cell BK109.out 3).trans rfl
   have hcz5_4 : w3.cell? ⟨gb109,4,none⟩ = some (.int .i64 a0_4):=(blk_cell BK109.out 4).trans rfl
   have hcz5_5 : w3.cell? ⟨gb109,5,none⟩ = some (.slice A0_5 l0_5.length c0_5):=(blk_cell BK109.out 5).trans rfl
   have hcz5_6 : w3.cell? ⟨gb109,6,none⟩ = some (.slice A0_6 l0_6.length c0_6):=(blk_cell BK109.out 6).trans rfl
   have hfz5_0:=blk_frozen BK109.out 0
   have hfz5_1:=blk_frozen BK109.out 1
   have hfz5_2:=blk_frozen BK109.out 2
   have hfz5_3:=blk_frozen BK109.out 3
   have hfz5_4:=blk_frozen BK109.out 4
   have hfz5_5:=blk_frozen BK109.out 5
   have hfz5_6:=blk_frozen BK109.out 6
   go_wp2
   go_meet
   case rel => exact ⟨_,(true),(by first | rfl | (simp; done) | (simp [*]; done)),H',⟨by first | omega | exact Nat.le_refl _⟩,⟨by (with_reducible repeat (first | refine blk_drewN ?_ _ | refine blk_drew ?_ | refine blk_alloc ?_ _)); exact BK109.out⟩,⟨by repeat (first | (with_reducible first | exact HB.out | apply below_alloc | apply pw_below_drewN | apply below_drew1 | refine below_set ?_ GE109.out) | exact HB.out)⟩⟩
  ·rw [if_neg c4] at H
   have c4b0 : decide (0 < (wrap64 ((l0_5.length : Int) + (l0_6.length : Int)))) = false:=decide_eq_false c4
   clear c4
   (first | rw [c4b0] | (simp only [i64_w,i32_w]; rw [c4b0]) | skip)
   have H':=Aside0.mk H
   clear H
   have hcz6_0 : w3.cell? ⟨gb109,0,none⟩ = some (.int .i64 a0_0):=(blk_cell BK109.out 0).trans rfl
   have hcz6_1 : w3.cell? ⟨gb109,1,none⟩ = some (.string a0_1):=(blk_cell BK109.out 1).trans rfl
   have hcz6_2 : w3.cell? ⟨gb109,2,none⟩ = some (.string a0_2):=(blk_cell BK109.out 2).trans rfl
   have hcz6_3 : w3.cell? ⟨gb109,3,none⟩ = some (.string a0_3):=(blk_cell BK109.out 3).trans rfl
   have hcz6_4 : w3.cell? ⟨gb109,4,none⟩ = some (.int .i64 a0_4):=(blk_cell BK109.out 4).trans rfl
   have hcz6_5 : w3.cell? ⟨gb109,5,none⟩ = some (.slice A0_5 l0_5.length c0_5):=(blk_cell BK109.out 5).trans rfl
   have hcz6_6 : w3.cell? ⟨gb109,6,none⟩ = some (.slice A0_6 l0_6.length c0_6):=(blk_cell BK109.out 6).trans rfl
   have hfz6_0:=blk_frozen BK109.out 0
   have hfz6_1:=blk_frozen BK109.out 1
   have hfz6_2:=blk_frozen BK109.out 2
   have hfz6_3:=blk_frozen BK109.out 3
   have hfz6_4:=blk_frozen BK109.out 4
   have hfz6_5:=blk_frozen BK109.out 5
   have hfz6_6:=blk_frozen BK109.out 6
   go_wp2
   go_meet
   case rel => exact ⟨_,((a0_4 != 0)),(by first | rfl | (simp; done) | (simp [*]; done)),H',⟨by first | omega | exact Nat.le_refl _⟩,⟨by (with_reducible repeat (first | refine blk_drewN ?_ _ | refine blk_drew ?_ | refine blk_alloc ?_ _)); exact BK109.out⟩,⟨by repeat (first | (with_reducible first | exact HB.out | apply below_alloc | apply pw_below_drewN | apply below_drew1 | refine below_set ?_ GE109.out) | exact HB.out)⟩⟩
 case rest =>
  clear HC2
  try clear c2
  try clear p2
  try clear c4
  try clear c4b0
  try clear p6
  try clear hcz5_0
  try clear hcz5_1
  try clear hcz5_2
  try clear hcz5_3
  try clear hcz5_4
  try clear hcz5_5
  try clear hcz5_6
  try clear hcz6_0
  try clear hcz6_1
  try clear hcz6_2
  try clear hcz6_3
  try clear hcz6_4
  try clear hcz6_5
  try clear hcz6_6
  try clear hfz5_0
  try clear hfz5_1
  try clear hfz5_2
  try clear hfz5_3
  try clear hfz5_4
  try clear hfz5_5
  try clear hfz5_6
  try clear hfz6_0
  try clear hfz6_1
  try clear hfz6_2
  try clear hfz6_3
  try clear hfz6_4
  try clear hfz6_5
  try clear hfz6_6
  obtain ⟨kq,x3_1,rfl,HA,HJ1,BK109,HB⟩:=hcut
  cases kq with
  | zero => exact absurd HA.out (by simp [prim_Right.j0])
  | succ kj1 =>
   have H:=HA.out
   clear HA
   simp only [prim_Right.j0] at H
   replace H:=Option.bind_eq_some_iff.mp H
   obtain ⟨t110,A70,H⟩:=H
   replace H : (if t110 = true then (if x3_1 = true then (prim_Right.j1 kj1 (a0_0 != 7) a0_0 a0_1 a0_2 a0_3 a0_4 l0_5 l0_6) else (prim_Right.j1 kj1 false a0_0 a0_1 a0_2 a0_3 a0_4 l0_5 l0_6)) else (prim_Right.j1 kj1 (!t110) a0_0 a0_1 a0_2 a0_3 a0_4 l0_5 l0_6)) = some r:=H
   have A7:=Aside0.mk A70
   clear A70
   have HC8:=Aside0.mk H
   clear H
   have hcz9_0 : wc.cell? ⟨gb109,0,none⟩ = some (.int .i64 a0_0):=(blk_cell BK109.out 0).trans rfl
   have hcz9_1 : wc.cell? ⟨gb109,1,none⟩ = some (.string a0_1):=(blk_cell BK109.out 1).trans rfl
   have hcz9_2 : wc.cell? ⟨gb109,2,none⟩ = some (.string a0_2):=(blk_cell BK109.out 2).trans rfl
   have hcz9_3 : wc.cell? ⟨gb109,3,none⟩ = some (.string a0_3):=(blk_cell BK109.out 3).trans rfl
   have hcz9_4 : wc.cell? ⟨gb109,4,none⟩ = some (.int .i64 a0_4):=(blk_cell BK109.out 4).trans rfl
   have hcz9_5 : wc.cell? ⟨gb109,5,none⟩ = some (.slice A0_5 l0_5.length c0_5):=(blk_cell BK109.out 5).trans rfl
   have hcz9_6 : wc.cell? ⟨gb109,6,none⟩ = some (.slice A0_6 l0_6.length c0_6):=(blk_cell BK109.out 6).trans rfl
   have hfz9_0:=blk_frozen BK109.out 0
   have hfz9_1:=blk_frozen BK109.out 1
   have hfz9_2:=blk_frozen BK109.out 2
   have hfz9_3:=blk_frozen BK109.out 3
   have hfz9_4:=blk_frozen BK109.out 4
   have hfz9_5:=blk_frozen BK109.out 5
   have hfz9_6:=blk_frozen BK109.out 6
   go_upto_if 17 with (first | ((with_reducible refine gate_callee (f:=66) rfl ?_); refine goesL_ (some 20) rfl rfl Tryz.func66 (by kernel_rfl) rfl #[.string a0_1] rfl (by (try simp only [List.map_toArray,List.map_cons,List.map_nil]); first | done | rfl | (simp only [List.length_drop,List.length_take]; rfl)) ?_; (with_reducible refine (path_Right.calls a0_1 t110 _ A7.out).mono ?_); rintro e w10 ⟨rfl,hb⟩; refine ⟨_,rfl,?_⟩; have n0_:=Aside0.mk (blk_below (g:=gb109) (o:=.cells #[.int .i64 a0_0,.string a0_1,.string a0_2,.string a0_3,.int .i64 a0_4,.slice A0_5 l0_5.length c0_5,.slice A0_6 l0_6.length c0_6] 25 (0,0)) (by (with_reducible repeat (first | refine blk_drewN ?_ _ | refine blk_drew ?_ | refine blk_alloc ?_ _)); exact BK109.out) hb); have n1_:=Aside0.mk (below_step (by repeat (first | (with_reducible first | exact HB.out | apply below_alloc | apply pw_below_drewN | apply below_drew1 | refine below_set ?_ GE109.out) | exact HB.out)) hb); clear BK109; clear HB; have BK109:=n0_; have HB:=n1_; clear n0_ n1_; (try clear hb); (try clear hb2); (try clear hk); (try clear hi)))
   (try simp only [Act.put,List.setIfInBounds_toArray,List.set_cons_zero,List.set_cons_succ])
   go_cut [17] (fun v17 wc => ∃ (kq : Nat) (x17_7 : Bool),v17 = .bool x17_7 ∧ Aside0 (prim_Right.j1 kq x17_7 a0_0 a0_1 a0_2 a0_3 a0_4 l0_5 l0_6 = some r) ∧ Aside0 (kq ≤ kj1) ∧ Aside0 (wc.heap[gb109]? = some (.cells #[.int .i64 a0_0,.string a0_1,.string a0_2,.string a0_3,.int .i64 a0_4,(.slice A0_5 l0_5.length c0_5),(.slice A0_6 l0_6.length c0_6)] 25 (0,0))) ∧ Aside0 (Below w.heap.size w wc))
   case first =>
    have H:=HC8.out
    clear HC8
    by_cases c11 : t110 = true
    ·subst c11
     have H1 : (if x3_1 = true then (prim_Right.j1 kj1 (a0_0 != 7) a0_0 a0_1 a0_2 a0_3 a0_4 l0_5 l0_6) else (prim_Right.j1 kj1 false a0_0 a0_1 a0_2 a0_3 a0_4 l0_5 l0_6)) = some r:=by rw [if_pos rfl] at H; exact H
     clear H
     have H:=H1
     clear H1
     by_cases c12 : x3_1 = true
     ·subst c12
      have H1 : (prim_Right.j1 kj1 (a0_0 != 7) a0_0 a0_1 a0_2 a0_3 a0_4 l0_5 l0_6) = some r:=by rw [if_pos rfl] at H; exact H
      clear H
      have H:=H1
      clear H1
      have H':=Aside0.mk H
      clear H
      have hcz13_0 : w10.cell? ⟨gb109,0,none⟩ = some (.int .i64 a0_0):=(blk_cell BK109.out 0).trans rfl
      have hcz13_1 : w10.cell? ⟨gb109,1,none⟩ = some (.string a0_1):=(blk_cell BK109.out 1).trans rfl
      have hcz13_2 : w10.cell? ⟨gb109,2,none⟩ = some (.string a0_2):=(blk_cell BK109.out 2).trans rfl
      have hcz13_3 : w10.cell? ⟨gb109,3,none⟩ = some (.string a0_3):=(blk_cell BK109.out 3).trans rfl
      have hcz13_4 : w10.cell? ⟨gb109,4,none⟩ = some (.int .i64 a0_4):=(blk_cell BK109.out 4).trans rfl
      have hcz13_5 : w10.cell? ⟨gb109,5,none⟩ = some (.slice A0_5 l0_5.length c0_5):=(blk_cell BK109.out 5).trans rfl
      have hcz13_6 : w10.cell? ⟨gb109,6,none⟩ = some (.slice A0_6 l0_6.length c0_6):=(blk_cell BK109.out 6).trans rfl
      have hfz13_0:=blk_frozen BK109.out 0
      have hfz13_1:=blk_frozen BK109.out 1
      have hfz13_2:=blk_frozen BK109.out 2
      have hfz13_3:=blk_frozen BK109.out 3
      have hfz13_4:=blk_frozen BK109.out 4
      have hfz13_5:=blk_frozen BK109.out 5
      have hfz13_6:=blk_frozen BK109.out 6
      go_wp2
      go_meet
      case rel => exact ⟨_,((a0_0 != 7)),(by first | rfl | (simp; done) | (simp [*]; done)),H',⟨by have:=HJ1.out; first | omega | exact Nat.le_refl _⟩,⟨by (with_reducible repeat (first | refine blk_drewN ?_ _ | refine blk_drew ?_ | refine blk_alloc ?_ _)); exact BK109.out⟩,⟨by repeat (first | (with_reducible first | exact HB.out | apply below_alloc | apply pw_below_drewN | apply below_drew1 | refine below_set ?_ GE109.out) | exact HB.out)⟩⟩
     ·replace c12:=Bool.eq_false_iff.mpr c12
      subst c12
      have H1 : (prim_Right.j1 kj1 false a0_0 a0_1 a0_2 a0_3 a0_4 l0_5 l0_6) = some r:=by rw [if_neg (show ¬ (false = true) by decide)] at H; exact H
      clear H
      have H:=H1
      clear H1
      have H':=Aside0.mk H
      clear H
      go_wp2
      go_meet
      case rel => exact ⟨_,(false),(by first | rfl | (simp; done) | (simp [*]; done)),H',⟨by have:=HJ1.out; first | omega | exact Nat.le_refl _⟩,⟨by (with_reducible repeat (first | refine blk_drewN ?_ _ | refine blk_drew ?_ | refine blk_alloc ?_ _)); exact BK109.out⟩,⟨by repeat (first | (with_reducible first | exact HB.out | apply below_alloc | apply pw_below_drewN | apply below_drew1 | refine below_set ?_ GE109.out) | exact HB.out)⟩⟩
    ·replace c11:=Bool.eq_false_iff.mpr c11
     subst c11
     have H1 : (prim_Right.j1 kj1 (!false) a0_0 a0_1 a0_2 a0_3 a0_4 l0_5 l0_6) = some r:=by rw [if_neg (show ¬ (false = true) by decide)] at H; exact H
     clear H
     have H:=H1
     clear H1
     have H':=Aside0.mk H
     clear H
     go_wp2
     go_meet
     case rel => exact ⟨_,(!false),(by first | rfl | (simp; done) | (simp [*]; done)),H',⟨by have:=HJ1.out; first | omega | exact Nat.le_refl _⟩,⟨by (with_reducible repeat (first | refine blk_drewN ?_ _ | refine blk_drew ?_ | refine blk_alloc ?_ _)); exact BK109.out⟩,⟨by repeat (first | (with_reducible first | exact HB.out | apply below_alloc | apply pw_below_drewN | apply below_drew1 | refine below_set ?_ GE109.out) | exact HB.out)⟩⟩
   case rest =>
    clear HC8
    try clear c1
    try clear c2
    try clear p2
    try clear c4
    try clear c4b0
    try clear c6
    try clear p6
    try clear c11
    try clear c12
    try clear hcz13_0
    try clear hcz13_1
    try clear hcz13_2
    try clear hcz13_3
    try clear hcz13_4
    try clear hcz13_5
    try clear hcz13_6
    try clear hcz5_0
    try clear hcz5_1
    try clear hcz5_2
    try clear hcz5_3
    try clear hcz5_4
    try clear hcz5_5
    try clear hcz5_6
    try clear hcz6_0
    try clear hcz6_1
    try clear hcz6_2
    try clear hcz6_3
    try clear hcz6_4
    try clear hcz6_5
    try clear hcz6_6
    try clear hcz9_0
    try clear hcz9_1
    try clear hcz9_2
    try clear hcz9_3
    try clear hcz9_4
    try clear hcz9_5
    try clear hcz9_6
    try clear hfz13_0
    try clear hfz13_1
    try clear hfz13_2
    try clear hfz13_3
    try clear hfz13_4
    try clear hfz13_5
    try clear hfz13_6
    try clear hfz5_0
    try clear hfz5_1
    try clear hfz5_2
    try clear hfz5_3
    try clear hfz5_4
    try clear hfz5_5
    try clear hfz5_6
    try clear hfz6_0
    try clear hfz6_1
    try clear hfz6_2
    try clear hfz6_3
    try clear hfz6_4
    try clear hfz6_5
    try clear hfz6_6
    try clear hfz9_0
    try clear hfz9_1
    try clear hfz9_2
    try clear hfz9_3
    try clear hfz9_4
    try clear hfz9_5
    try clear hfz9_6
    try clear p2
    try clear p6
    obtain ⟨kq,x17_7,rfl,HA,HJ7,BK109,HB⟩:=hcut
    cases kq with
    | zero => exact absurd HA.out (by simp [prim_Right.j1])
    | succ kj7 =>
     have H:=HA.out
     clear HA
     simp only [prim_Right.j1] at H
     by_cases c14 : x17_7 = true
     ·subst c14
      have H1 : (some false) = some r:=by rw [if_pos rfl] at H; exact H
      clear H
      have H:=H1
      clear H1
      obtain rfl:=Option.some.inj H
      go_wp2
      go_ret
      exact ⟨by first | rfl | (simp [errW_none,errW_some] <;> rfl) | (simp [*,errW_none,errW_some] <;> rfl),by repeat (first | (with_reducible first | exact HB.out | apply below_alloc | apply pw_below_drewN | apply below_drew1 | refine below_set ?_ GE109.out) | exact HB.out)⟩
     ·replace c14:=Bool.eq_false_iff.mpr c14
      subst c14
      have H1 : (if a0_0 = 8 then ((lines_Token.f kj7 a0_3).bind fun t111 => (if t111 = true then ((lines_Token.f kj7 a0_2).bind fun t112 => (if t112 = true then (some (a0_3.toList != a0_2.toList)) else (some false))) else (some false))) else (if a0_0 = 9 then (some (a0_3.toList != a0_2.toList)) else (if a0_3.toList = ([] : List UInt8) then (if a0_0 = 10 then ((path_Right.f a0_2).bind fun t113 => (if t113 = true then ((path_Apart.f a0_1 a0_2).bind fun t114 => (some t114)) else (some false))) else (if a0_0 = 7 then (if a0_2.toList = ([] : List UInt8) then (if a0_4 ≥ 0 then (if a0_4 ≤ 1073741824 then ((lines_Right.f l0_5).bind fun t115 => (if t115 = true then ((lines_Right.f l0_6).bind fun t116 => (if t116 = true then (some (decide ((wrap64 ((l0_5.length : Int) + (l0_6.length : Int))) > 0))) else (some false))) else (some false))) else (some false)) else (some false)) else (some false)) else (if a0_2.toList = ([] : List UInt8) then (if a0_0 ≥ 1 then (some (decide (a0_0 ≤ 6))) else (some false)) else (some false)))) else (some false)))) = some r:=by rw [if_neg (show ¬ (false = true) by decide)] at H; exact H
      clear H
      have H:=H1
      clear H1
      by_cases c15 : a0_0 = 8
      ·rw [if_pos c15] at H
       have c15b0 : (a0_0 == 8) = true:=beq_iff_eq.mpr c15
       have c15b1 : (a0_0 != 8) = false:=bne_eq_false_iff_eq.mpr c15
       clear c15
       replace H:=Option.bind_eq_some_iff.mp H
       obtain ⟨t111,A160,H⟩:=H
       replace H : (if t111 = true then ((lines_Token.f kj7 a0_2).bind fun t112 => (if t112 = true then (some (a0_3.toList != a0_2.toList)) else (some false))) else (some false)) = some r:=H
       have A16:=Aside0.mk A160
       clear A160
       by_cases c17 : t111 = true
       ·subst c17
        have H1 : ((lines_Token.f kj7 a0_2).bind fun t112 => (if t112 = true then (some (a0_3.toList != a0_2.toList)) else (some false))) = some r:=by rw [if_pos rfl] at H; exact H
        clear H
        have H:=H1
        clear H1
        replace H:=Option.bind_eq_some_iff.mp H
        obtain ⟨t112,A180,H⟩:=H
        replace H : (if t112 = true then (some (a0_3.toList != a0_2.toList)) else (some false)) = some r:=H
        have A18:=Aside0.mk A180
        clear A180
        by_cases c19 : t112 = true
        ·subst c19
         have H1 : (some (a0_3.toList != a0_2.toList)) = some r:=by rw [if_pos rfl] at H; exact H
         clear H
         have H:=H1
         clear H1
         obtain rfl:=Option.some.inj H
         have hcz20_0 : wc.cell? ⟨gb109,0,none⟩ = some (.int .i64 a0_0):=(blk_cell BK109.out 0).trans rfl
         have hcz20_1 : wc.cell? ⟨gb109,1,none⟩ = some (.string a0_1):=(blk_cell BK109.out 1).trans rfl
         have hcz20_2 : wc.cell? ⟨gb109,2,none⟩ = some (.string a0_2):=(blk_cell BK109.out 2).trans rfl
         have hcz20_3 : wc.cell? ⟨gb109,3,none⟩ = some (.string a0_3):=(blk_cell BK109.out 3).trans rfl
         have hcz20_4 : wc.cell? ⟨gb109,4,none⟩ = some (.int .i64 a0_4):=(blk_cell BK109.out 4).trans rfl
         have hcz20_5 : wc.cell? ⟨gb109,5,none⟩ = some (.slice A0_5 l0_5.length c0_5):=(blk_cell BK109.out 5).trans rfl
         have hcz20_6 : wc.cell? ⟨gb109,6,none⟩ = some (.slice A0_6 l0_6.length c0_6):=(blk_cell BK109.out 6).trans rfl
         have hfz20_0:=blk_frozen BK109.out 0
         have hfz20_1:=blk_frozen BK109.out 1
         have hfz20_2:=blk_frozen BK109.out 2
         have hfz20_3:=blk_frozen BK109.out 3
         have hfz20_4:=blk_frozen BK109.out 4
         have hfz20_5:=blk_frozen BK109.out 5
         have hfz20_6:=blk_frozen BK109.out 6
         go_wp2_with (first | ((with_reducible refine gate_callee (f:=67) rfl ?_); refine goesL_ (some 34) rfl rfl Tryz.func67 (by kernel_rfl) rfl #[.string a0_3] rfl (by (try simp only [List.map_toArray,List.map_cons,List.map_nil]); first | done | rfl | (simp only [List.length_drop,List.length_take]; rfl)) ?_; (with_reducible refine (lines_Token.calls kj7 a0_3 true _ A16.out).mono ?_); rintro e w' ⟨rfl,⟨nd,rfl⟩⟩; refine ⟨_,rfl,?_⟩) | (go_at_call 67; (with_reducible refine (lines_Token.calls kj7 a0_2 true _ A18.out).mono ?_); rintro e w' ⟨rfl,⟨nd,rfl⟩⟩))
         go_ret
         exact ⟨by first | rfl | (simp [errW_none,errW_some] <;> rfl) | (simp [*,errW_none,errW_some] <;> rfl),by repeat (first | (with_reducible first | exact HB.out | apply below_alloc | apply pw_below_drewN | apply below_drew1 | refine below_set ?_ GE109.out) | exact HB.out)⟩
        ·replace c19:=Bool.eq_false_iff.mpr c19
         subst c19
         have H1 : (some false) = some r:=by rw [if_neg (show ¬ (false = true) by decide)] at H; exact H
         clear H
         have H:=H1
         clear H1
         obtain rfl:=Option.some.inj H
         have hcz21_0 : wc.cell? ⟨gb109,0,none⟩ = some (.int .i64 a0_0):=(blk_cell BK109.out 0).trans rfl
         have hcz21_1 : wc.cell? ⟨gb109,1,none⟩ = some (.string a0_1):=(blk_cell BK109.out 1).trans rfl
         have hcz21_2 : wc.cell? ⟨gb109,2,none⟩ = some (.string a0_2):=(blk_cell BK109.out 2).trans rfl
         have hcz21_3 : wc.cell? ⟨gb109,3,none⟩ = some (.string a0_3):=(blk_cell BK109.out 3).trans rfl
         have hcz21_4 : wc.cell? ⟨gb109,4,none⟩ = some (.int .i64 a0_4):=(blk_cell BK109.out 4).trans rfl
         have hcz21_5 : wc.cell? ⟨gb109,5,none⟩ = some (.slice A0_5 l0_5.length c0_5):=(blk_cell BK109.out 5).trans rfl
         have hcz21_6 : wc.cell? ⟨gb109,6,none⟩ = some (.slice A0_6 l0_6.length c0_6):=(blk_cell BK109.out 6).trans rfl
         have hfz21_0:=blk_frozen BK109.out 0
         have hfz21_1:=blk_frozen BK109.out 1
         have hfz21_2:=blk_frozen BK109.out 2
         have hfz21_3:=blk_frozen BK109.out 3
         have hfz21_4:=blk_frozen BK109.out 4
         have hfz21_5:=blk_frozen BK109.out 5
         have hfz21_6:=blk_frozen BK109.out 6
         go_wp2_with (first | ((with_reducible refine gate_callee (f:=67) rfl ?_); refine goesL_ (some 34) rfl rfl Tryz.func67 (by kernel_rfl) rfl #[.string a0_3] rfl (by (try simp only [List.map_toArray,List.map_cons,List.map_nil]); first | done | rfl | (simp only [List.length_drop,List.length_take]; rfl)) ?_; (with_reducible refine (lines_Token.calls kj7 a0_3 true _ A16.out).mono ?_); rintro e w' ⟨rfl,⟨nd,rfl⟩⟩; refine ⟨_,rfl,?_⟩) | (go_at_call 67; (with_reducible refine (lines_Token.calls kj7 a0_2 false _ A18.out).mono ?_); rintro e w' ⟨rfl,⟨nd,rfl⟩⟩))
         go_ret
         exact ⟨by first | rfl | (simp [errW_none,errW_some] <;> rfl) | (simp [*,errW_none,errW_some] <;> rfl),by repeat (first | (with_reducible first | exact HB.out | apply below_alloc | apply pw_below_drewN | apply below_drew1 | refine below_set ?_ GE109.out) | exact HB.out)⟩
       ·replace c17:=Bool.eq_false_iff.mpr c17
        subst c17
        have H1 : (some false) = some r:=by rw [if_neg (show ¬ (false = true) by decide)] at H; exact H
        clear H
        have H:=H1
        clear H1
        obtain rfl:=Option.some.inj H
        have hcz22_0 : wc.cell? ⟨gb109,0,none⟩ = some (.int .i64 a0_0):=(blk_cell BK109.out 0).trans rfl
        have hcz22_1 : wc.cell? ⟨gb109,1,none⟩ = some (.string a0_1):=(blk_cell BK109.out 1).trans rfl
        have hcz22_2 : wc.cell? ⟨gb109,2,none⟩ = some (.string a0_2):=(blk_cell BK109.out 2).trans rfl
        have hcz22_3 : wc.cell? ⟨gb109,3,none⟩ = some (.string a0_3):=(blk_cell BK109.out 3).trans rfl
        have hcz22_4 : wc.cell? ⟨gb109,4,none⟩ = some (.int .i64 a0_4):=(blk_cell BK109.out 4).trans rfl
        have hcz22_5 : wc.cell? ⟨gb109,5,none⟩ = some (.slice A0_5 l0_5.length c0_5):=(blk_cell BK109.out 5).trans rfl
        have hcz22_6 : wc.cell? ⟨gb109,6,none⟩ = some (.slice A0_6 l0_6.length c0_6):=(blk_cell BK109.out 6).trans rfl
        have hfz22_0:=blk_frozen BK109.out 0
        have hfz22_1:=blk_frozen BK109.out 1
        have hfz22_2:=blk_frozen BK109.out 2
        have hfz22_3:=blk_frozen BK109.out 3
        have hfz22_4:=blk_frozen BK109.out 4
        have hfz22_5:=blk_frozen BK109.out 5
        have hfz22_6:=blk_frozen BK109.out 6
        go_wp2_with (first | ((with_reducible refine gate_callee (f:=67) rfl ?_); refine goesL_ (some 34) rfl rfl Tryz.func67 (by kernel_rfl) rfl #[.string a0_3] rfl (by (try simp only [List.map_toArray,List.map_cons,List.map_nil]); first | done | rfl | (simp only [List.length_drop,List.length_take]; rfl)) ?_; (with_reducible refine (lines_Token.calls kj7 a0_3 false _ A16.out).mono ?_); rintro e w' ⟨rfl,⟨nd,rfl⟩⟩; refine ⟨_,rfl,?_⟩))
        go_ret
        exact ⟨by first | rfl | (simp [errW_none,errW_some] <;> rfl) | (simp [*,errW_none,errW_some] <;> rfl),by repeat (first | (with_reducible first | exact HB.out | apply below_alloc | apply pw_below_drewN | apply below_drew1 | refine below_set ?_ GE109.out) | exact HB.out)⟩
      ·rw [if_neg c15] at H
       have c15b0 : (a0_0 == 8) = false:=beq_eq_false_iff_ne.mpr c15
       have c15b1 : (a0_0 != 8) = true:=bne_iff_ne.mpr c15
       by_cases c23 : a0_0 = 9
       ·rw [if_pos c23] at H
        have c23b0 : (a0_0 == 9) = true:=beq_iff_eq.mpr c23
        have c23b1 : (a0_0 != 9) = false:=bne_eq_false_iff_eq.mpr c23
        clear c23
        obtain rfl:=Option.some.inj H
        have hcz24_0 : wc.cell? ⟨gb109,0,none⟩ = some (.int .i64 a0_0):=(blk_cell BK109.out 0).trans rfl
        have hcz24_1 : wc.cell? ⟨gb109,1,none⟩ = some (.string a0_1):=(blk_cell BK109.out 1).trans rfl
        have hcz24_2 : wc.cell? ⟨gb109,2,none⟩ = some (.string a0_2):=(blk_cell BK109.out 2).trans rfl
        have hcz24_3 : wc.cell? ⟨gb109,3,none⟩ = some (.string a0_3):=(blk_cell BK109.out 3).trans rfl
        have hcz24_4 : wc.cell? ⟨gb109,4,none⟩ = some (.int .i64 a0_4):=(blk_cell BK109.out 4).trans rfl
        have hcz24_5 : wc.cell? ⟨gb109,5,none⟩ = some (.slice A0_5 l0_5.length c0_5):=(blk_cell BK109.out 5).trans rfl
        have hcz24_6 : wc.cell? ⟨gb109,6,none⟩ = some (.slice A0_6 l0_6.length c0_6):=(blk_cell BK109.out 6).trans rfl
        have hfz24_0:=blk_frozen BK109.out 0
        have hfz24_1:=blk_frozen BK109.out 1
        have hfz24_2:=blk_frozen BK109.out 2
        have hfz24_3:=blk_frozen BK109.out 3
        have hfz24_4:=blk_frozen BK109.out 4
        have hfz24_5:=blk_frozen BK109.out 5
        have hfz24_6:=blk_frozen BK109.out 6
        go_wp2
        go_ret
        exact ⟨by first | rfl | (simp [errW_none,errW_some] <;> rfl) | (simp [*,errW_none,errW_some] <;> rfl),by repeat (first | (with_reducible first | exact HB.out | apply below_alloc | apply pw_below_drewN | apply below_drew1 | refine below_set ?_ GE109.out) | exact HB.out)⟩
       ·rw [if_neg c23] at H
        have c23b0 : (a0_0 == 9) = false:=beq_eq_false_iff_ne.mpr c23
        have c23b1 : (a0_0 != 9) = true:=bne_iff_ne.mpr c23
        by_cases c25 : a0_3.toList = ([] : List UInt8)
        ·rw [if_pos c25] at H
         have c25b0 : (a0_3.toList == ([] : List UInt8)) = true:=beq_iff_eq.mpr c25
         have c25b1 : (a0_3.toList != ([] : List UInt8)) = false:=bne_eq_false_iff_eq.mpr c25
         clear c25
         by_cases c26 : a0_0 = 10
         ·rw [if_pos c26] at H
          have c26b0 : (a0_0 == 10) = true:=beq_iff_eq.mpr c26
          have c26b1 : (a0_0 != 10) = false:=bne_eq_false_iff_eq.mpr c26
          clear c26
          replace H:=Option.bind_eq_some_iff.mp H
          obtain ⟨t113,A270,H⟩:=H
          replace H : (if t113 = true then ((path_Apart.f a0_1 a0_2).bind fun t114 => (some t114)) else (some false)) = some r:=H
          have A27:=Aside0.mk A270
          clear A270
          by_cases c28 : t113 = true
          ·subst c28
           have H1 : ((path_Apart.f a0_1 a0_2).bind fun t114 => (some t114)) = some r:=by rw [if_pos rfl] at H; exact H
           clear H
           have H:=H1
           clear H1
           replace H:=Option.bind_eq_some_iff.mp H
           obtain ⟨t114,A290,H⟩:=H
           replace H : (some t114) = some r:=H
           have A29:=Aside0.mk A290
           clear A290
           obtain rfl:=Option.some.inj H
           have hcz30_0 : wc.cell? ⟨gb109,0,none⟩ = some (.int .i64 a0_0):=(blk_cell BK109.out 0).trans rfl
           have hcz30_1 : wc.cell? ⟨gb109,1,none⟩ = some (.string a0_1):=(blk_cell BK109.out 1).trans rfl
           have hcz30_2 : wc.cell? ⟨gb109,2,none⟩ = some (.string a0_2):=(blk_cell BK109.out 2).trans rfl
           have hcz30_3 : wc.cell? ⟨gb109,3,none⟩ = some (.string a0_3):=(blk_cell BK109.out 3).trans rfl
           have hcz30_4 : wc.cell? ⟨gb109,4,none⟩ = some (.int .i64 a0_4):=(blk_cell BK109.out 4).trans rfl
           have hcz30_5 : wc.cell? ⟨gb109,5,none⟩ = some (.slice A0_5 l0_5.length c0_5):=(blk_cell BK109.out 5).trans rfl
           have hcz30_6 : wc.cell? ⟨gb109,6,none⟩ = some (.slice A0_6 l0_6.length c0_6):=(blk_cell BK109.out 6).trans rfl
           have hfz30_0:=blk_frozen BK109.out 0
           have hfz30_1:=blk_frozen BK109.out 1
           have hfz30_2:=blk_frozen BK109.out 2
           have hfz30_3:=blk_frozen BK109.out 3
           have hfz30_4:=blk_frozen BK109.out 4
           have hfz30_5:=blk_frozen BK109.out 5
           have hfz30_6:=blk_frozen BK109.out 6
           go_wp2_with (first | ((with_reducible refine gate_callee (f:=66) rfl ?_); refine goesL_ (some 66) rfl rfl Tryz.func66 (by kernel_rfl) rfl #[.string a0_2] rfl (by (try simp only [List.map_toArray,List.map_cons,List.map_nil]); first | done | rfl | (simp only [List.length_drop,List.length_take]; rfl)) ?_; (with_reducible refine (path_Right.calls a0_2 true _ A27.out).mono ?_); rintro e w31 ⟨rfl,hb⟩; refine ⟨_,rfl,?_⟩; have n0_:=Aside0.mk (blk_below (g:=gb109) (o:=.cells #[.int .i64 a0_0,.string a0_1,.string a0_2,.string a0_3,.int .i64 a0_4,.slice A0_5 l0_5.length c0_5,.slice A0_6 l0_6.length c0_6] 25 (0,0)) (by (with_reducible repeat (first | refine blk_drewN ?_ _ | refine blk_drew ?_ | refine blk_alloc ?_ _)); exact BK109.out) hb); have n1_:=Aside0.mk (below_step (by repeat (first | (with_reducible first | exact HB.out | apply below_alloc | apply pw_below_drewN | apply below_drew1 | refine below_set ?_ GE109.out) | exact HB.out)) hb); clear BK109; clear HB; have BK109:=n0_; have HB:=n1_; clear n0_ n1_; (try clear hb); (try clear hb2); (try clear hk); (try clear hi); have hcz32_0 : w31.cell? ⟨gb109,0,none⟩ = some (.int .i64 a0_0):=(blk_cell BK109.out 0).trans rfl; have hcz32_1 : w31.cell? ⟨gb109,1,none⟩ = some (.string a0_1):=(blk_cell BK109.out 1).trans rfl; have hcz32_2 : w31.cell? ⟨gb109,2,none⟩ = some (.string a0_2):=(blk_cell BK109.out 2).trans rfl; have hcz32_3 : w31.cell? ⟨gb109,3,none⟩ = some (.string a0_3):=(blk_cell BK109.out 3).trans rfl; have hcz32_4 : w31.cell? ⟨gb109,4,none⟩ = some (.int .i64 a0_4):=(blk_cell BK109.out 4).trans rfl; have hcz32_5 : w31.cell? ⟨gb109,5,none⟩ = some (.slice A0_5 l0_5.length c0_5):=(blk_cell BK109.out 5).trans rfl; have hcz32_6 : w31.cell? ⟨gb109,6,none⟩ = some (.slice A0_6 l0_6.length c0_6):=(blk_cell BK109.out 6).trans rfl; have hfz32_0:=blk_frozen BK109.out 0; have hfz32_1:=blk_frozen BK109.out 1; have hfz32_2:=blk_frozen BK109.out 2; have hfz32_3:=blk_frozen BK109.out 3; have hfz32_4:=blk_frozen BK109.out 4; have hfz32_5:=blk_frozen BK109.out 5; have hfz32_6:=blk_frozen BK109.out 6) | (go_at_call 68; (with_reducible refine (path_Apart.calls a0_1 a0_2 t114 _ A29.out).mono ?_); rintro e w' ⟨rfl,⟨nd,rfl⟩⟩))
           go_ret
           exact ⟨by first | rfl | (simp [errW_none,errW_some] <;> rfl) | (simp [*,errW_none,errW_some] <;> rfl),by repeat (first | (with_reducible first | exact HB.out | apply below_alloc | apply pw_below_drewN | apply below_drew1 | refine below_set ?_ GE109.out) | exact HB.out)⟩
          ·replace c28:=Bool.eq_false_iff.mpr c28
           subst c28
           have H1 : (some false) = some r:=by rw [if_neg (show ¬ (false = true) by decide)] at H; exact H
           clear H
           have H:=H1
           clear H1
           obtain rfl:=Option.some.inj H
           have hcz33_0 : wc.cell? ⟨gb109,0,none⟩ = some (.int .i64 a0_0):=(blk_cell BK109.out 0).trans rfl
           have hcz33_1 : wc.cell? ⟨gb109,1,none⟩ = some (.string a0_1):=(blk_cell BK109.out 1).trans rfl
           have hcz33_2 : wc.cell? ⟨gb109,2,none⟩ = some (.string a0_2):=(blk_cell BK109.out 2).trans rfl
           have hcz33_3 : wc.cell? ⟨gb109,3,none⟩ = some (.string a0_3):=(blk_cell BK109.out 3).trans rfl
           have hcz33_4 : wc.cell? ⟨gb109,4,none⟩ = some (.int .i64 a0_4):=(blk_cell BK109.out 4).trans rfl
           have hcz33_5 : wc.cell? ⟨gb109,5,none⟩ = some (.slice A0_5 l0_5.length c0_5):=(blk_cell BK109.out 5).trans rfl
           have hcz33_6 : wc.cell? ⟨gb109,6,none⟩ = some (.slice A0_6 l0_6.length c0_6):=(blk_cell BK109.out 6).trans rfl
           have hfz33_0:=blk_frozen BK109.out 0
           have hfz33_1:=blk_frozen BK109.out 1
           have hfz33_2:=blk_frozen BK109.out 2
           have hfz33_3:=blk_frozen BK109.out 3
           have hfz33_4:=blk_frozen BK109.out 4
           have hfz33_5:=blk_frozen BK109.out 5
           have hfz33_6:=blk_frozen BK109.out 6
           go_wp2_with (first | ((with_reducible refine gate_callee (f:=66) rfl ?_); refine goesL_ (some 66) rfl rfl Tryz.func66 (by kernel_rfl) rfl #[.string a0_2] rfl (by (try simp only [List.map_toArray,List.map_cons,List.map_nil]); first | done | rfl | (simp only [List.length_drop,List.length_take]; rfl)) ?_; (with_reducible refine (path_Right.calls a0_2 false _ A27.out).mono ?_); rintro e w34 ⟨rfl,hb⟩; refine ⟨_,rfl,?_⟩; have n0_:=Aside0.mk (blk_below (g:=gb109) (o:=.cells #[.int .i64 a0_0,.string a0_1,.string a0_2,.string a0_3,.int .i64 a0_4,.slice A0_5 l0_5.length c0_5,.slice A0_6 l0_6.length c0_6] 25 (0,0)) (by (with_reducible repeat (first | refine blk_drewN ?_ _ | refine blk_drew ?_ | refine blk_alloc ?_ _)); exact BK109.out) hb); have n1_:=Aside0.mk (below_step (by repeat (first | (with_reducible first | exact HB.out | apply below_alloc | apply pw_below_drewN | apply below_drew1 | refine below_set ?_ GE109.out) | exact HB.out)) hb); clear BK109; clear HB; have BK109:=n0_; have HB:=n1_; clear n0_ n1_; (try clear hb); (try clear hb2); (try clear hk); (try clear hi)))
           go_ret
           exact ⟨by first | rfl | (simp [errW_none,errW_some] <;> rfl) | (simp [*,errW_none,errW_some] <;> rfl),by repeat (first | (with_reducible first | exact HB.out | apply below_alloc | apply pw_below_drewN | apply below_drew1 | refine below_set ?_ GE109.out) | exact HB.out)⟩
         ·rw [if_neg c26] at H
          have c26b0 : (a0_0 == 10) = false:=beq_eq_false_iff_ne.mpr c26
          have c26b1 : (a0_0 != 10) = true:=bne_iff_ne.mpr c26
          by_cases c35 : a0_0 = 7
          ·rw [if_pos c35] at H
           have c35b0 : (a0_0 == 7) = true:=beq_iff_eq.mpr c35
           have c35b1 : (a0_0 != 7) = false:=bne_eq_false_iff_eq.mpr c35
           clear c35
           by_cases c36 : a0_2.toList = ([] : List UInt8)
           ·rw [if_pos c36] at H
            have c36b0 : (a0_2.toList == ([] : List UInt8)) = true:=beq_iff_eq.mpr c36
            have c36b1 : (a0_2.toList != ([] : List UInt8)) = false:=bne_eq_false_iff_eq.mpr c36
            clear c36
            by_cases c37 : a0_4 ≥ 0
            ·rw [if_pos c37] at H
             have c37b0 : decide (0 ≤ a0_4) = true:=decide_eq_true c37
             clear c37
             by_cases c38 : a0_4 ≤ 1073741824
             ·rw [if_pos c38] at H
              have c38b0 : decide (a0_4 ≤ 1073741824) = true:=decide_eq_true c38
              clear c38
              replace H:=Option.bind_eq_some_iff.mp H
              obtain ⟨t115,A390,H⟩:=H
              replace H : (if t115 = true then ((lines_Right.f l0_6).bind fun t116 => (if t116 = true then (some (decide ((wrap64 ((l0_5.length : Int) + (l0_6.length : Int))) > 0))) else (some false))) else (some false)) = some r:=H
              have A39:=Aside0.mk A390
              clear A390
              by_cases c40 : t115 = true
              ·subst c40
               have H1 : ((lines_Right.f l0_6).bind fun t116 => (if t116 = true then (some (decide ((wrap64 ((l0_5.length : Int) + (l0_6.length : Int))) > 0))) else (some false))) = some r:=by rw [if_pos rfl] at H; exact H
               clear H
               have H:=H1
               clear H1
               replace H:=Option.bind_eq_some_iff.mp H
               obtain ⟨t116,A410,H⟩:=H
               replace H : (if t116 = true then (some (decide ((wrap64 ((l0_5.length : Int) + (l0_6.length : Int))) > 0))) else (some false)) = some r:=H
               have A41:=Aside0.mk A410
               clear A410
               by_cases c42 : t116 = true
               ·subst c42
                have H1 : (some (decide ((wrap64 ((l0_5.length : Int) + (l0_6.length : Int))) > 0))) = some r:=by rw [if_pos rfl] at H; exact H
                clear H
                have H:=H1
                clear H1
                obtain rfl:=Option.some.inj H
                have hcz43_0 : wc.cell? ⟨gb109,0,none⟩ = some (.int .i64 a0_0):=(blk_cell BK109.out 0).trans rfl
                have hcz43_1 : wc.cell? ⟨gb109,1,none⟩ = some (.string a0_1):=(blk_cell BK109.out 1).trans rfl
                have hcz43_2 : wc.cell? ⟨gb109,2,none⟩ = some (.string a0_2):=(blk_cell BK109.out 2).trans rfl
                have hcz43_3 : wc.cell? ⟨gb109,3,none⟩ = some (.string a0_3):=(blk_cell BK109.out 3).trans rfl
                have hcz43_4 : wc.cell? ⟨gb109,4,none⟩ = some (.int .i64 a0_4):=(blk_cell BK109.out 4).trans rfl
                have hcz43_5 : wc.cell? ⟨gb109,5,none⟩ = some (.slice A0_5 l0_5.length c0_5):=(blk_cell BK109.out 5).trans rfl
                have hcz43_6 : wc.cell? ⟨gb109,6,none⟩ = some (.slice A0_6 l0_6.length c0_6):=(blk_cell BK109.out 6).trans rfl
                have hfz43_0:=blk_frozen BK109.out 0
                have hfz43_1:=blk_frozen BK109.out 1
                have hfz43_2:=blk_frozen BK109.out 2
                have hfz43_3:=blk_frozen BK109.out 3
                have hfz43_4:=blk_frozen BK109.out 4
                have hfz43_5:=blk_frozen BK109.out 5
                have hfz43_6:=blk_frozen BK109.out 6
                go_wp2_with (first | (go_at_call 69; (with_reducible refine (lines_Right.calls _ _ l0_5 true _ ?side1 ?side2 A39.out).mono ?_); (case side1 => repeat (first | exact (Kd.C_below HR0_5.out HB.out) | (with_reducible refine Kd.C_alloc ?_ _) | (with_reducible refine Kd.C_drewN ?_ _) | (with_reducible refine Kd.C_drew ?_))); (case side2 => exact HC0_5.out); rintro e w' ⟨rfl,⟨nd,rfl⟩⟩) | (go_at_call 69; (with_reducible refine (lines_Right.calls _ _ l0_6 true _ ?side1 ?side2 A41.out).mono ?_); (case side1 => repeat (first | exact (Kd.C_below HR0_6.out (by repeat (first | (with_reducible first | exact HB.out | apply below_alloc | apply pw_below_drewN | apply below_drew1 | refine below_set ?_ GE109.out) | exact HB.out))) | (with_reducible refine Kd.C_alloc ?_ _) | (with_reducible refine Kd.C_drewN ?_ _) | (with_reducible refine Kd.C_drew ?_))); (case side2 => exact HC0_6.out); rintro e w' ⟨rfl,⟨nd,rfl⟩⟩))
                go_ret
                exact ⟨by first | rfl | (simp [errW_none,errW_some] <;> rfl) | (simp [*,errW_none,errW_some] <;> rfl),by repeat (first | (with_reducible first | exact HB.out | apply below_alloc | apply pw_below_drewN | apply below_drew1 | refine below_set ?_ GE109.out) | exact HB.out)⟩
               ·replace c42:=Bool.eq_false_iff.mpr c42
                subst c42
                have H1 : (some false) = some r:=by rw [if_neg (show ¬ (false = true) by decide)] at H; exact H
                clear H
                have H:=H1
                clear H1
                obtain rfl:=Option.some.inj H
                have hcz44_0 : wc.cell? ⟨gb109,0,none⟩ = some (.int .i64 a0_0):=(blk_cell BK109.out 0).trans rfl
                have hcz44_1 : wc.cell? ⟨gb109,1,none⟩ = some (.string a0_1):=(blk_cell BK109.out 1).trans rfl
                have hcz44_2 : wc.cell? ⟨gb109,2,none⟩ = some (.string a0_2):=(blk_cell BK109.out 2).trans rfl
                have hcz44_3 : wc.cell? ⟨gb109,3,none⟩ = some (.string a0_3):=(blk_cell BK109.out 3).trans rfl
                have hcz44_4 : wc.cell? ⟨gb109,4,none⟩ = some (.int .i64 a0_4):=(blk_cell BK109.out 4).trans rfl
                have hcz44_5 : wc.cell? ⟨gb109,5,none⟩ = some (.slice A0_5 l0_5.length c0_5):=(blk_cell BK109.out 5).trans rfl
                have hcz44_6 : wc.cell? ⟨gb109,6,none⟩ = some (.slice A0_6 l0_6.length c0_6):=(blk_cell BK109.out 6).trans rfl
                have hfz44_0:=blk_frozen BK109.out 0
                have hfz44_1:=blk_frozen BK109.out 1
                have hfz44_2:=blk_frozen BK109.out 2
                have hfz44_3:=blk_frozen BK109.out 3
                have hfz44_4:=blk_frozen BK109.out 4
                have hfz44_5:=blk_frozen BK109.out 5
                have hfz44_6:=blk_frozen BK109.out 6
                go_wp2_with (first | (go_at_call 69; (with_reducible refine (lines_Right.calls _ _ l0_5 true _ ?side1 ?side2 A39.out).mono ?_); (case side1 => repeat (first | exact (Kd.C_below HR0_5.out HB.out) | (with_reducible refine Kd.C_alloc ?_ _) | (with_reducible refine Kd.C_drewN ?_ _) | (with_reducible refine Kd.C_drew ?_))); (case side2 => exact HC0_5.out); rintro e w' ⟨rfl,⟨nd,rfl⟩⟩) | (go_at_call 69; (with_reducible refine (lines_Right.calls _ _ l0_6 false _ ?side1 ?side2 A41.out).mono ?_); (case side1 => repeat (first | exact (Kd.C_below HR0_6.out (by repeat (first | (with_reducible first | exact HB.out | apply below_alloc | apply pw_below_drewN | apply below_drew1 | refine below_set ?_ GE109.out) | exact HB.out))) | (with_reducible refine Kd.C_alloc ?_ _) | (with_reducible refine Kd.C_drewN ?_ _) | (with_reducible refine Kd.C_drew ?_))); (case side2 => exact HC0_6.out); rintro e w' ⟨rfl,⟨nd,rfl⟩⟩))
                go_ret
                exact ⟨by first | rfl | (simp [errW_none,errW_some] <;> rfl) | (simp [*,errW_none,errW_some] <;> rfl),by repeat (first | (with_reducible first | exact HB.out | apply below_alloc | apply pw_below_drewN | apply below_drew1 | refine below_set ?_ GE109.out) | exact HB.out)⟩
              ·replace c40:=Bool.eq_false_iff.mpr c40
               subst c40
               have H1 : (some false) = some r:=by rw [if_neg (show ¬ (false = true) by decide)] at H; exact H
               clear H
               have H:=H1
               clear H1
               obtain rfl:=Option.some.inj H
               have hcz45_0 : wc.cell? ⟨gb109,0,none⟩ = some (.int .i64 a0_0):=(blk_cell BK109.out 0).trans rfl
               have hcz45_1 : wc.cell? ⟨gb109,1,none⟩ = some (.string a0_1):=(blk_cell BK109.out 1).trans rfl
               have hcz45_2 : wc.cell? ⟨gb109,2,none⟩ = some (.string a0_2):=(blk_cell BK109.out 2).trans rfl
               have hcz45_3 : wc.cell? ⟨gb109,3,none⟩ = some (.string a0_3):=(blk_cell BK109.out 3).trans rfl
               have hcz45_4 : wc.cell? ⟨gb109,4,none⟩ = some (.int .i64 a0_4):=(blk_cell BK109.out 4).trans rfl
               have hcz45_5 : wc.cell? ⟨gb109,5,none⟩ = some (.slice A0_5 l0_5.length c0_5):=(blk_cell BK109.out 5).trans rfl
               have hcz45_6 : wc.cell? ⟨gb109,6,none⟩ = some (.slice A0_6 l0_6.length c0_6):=(blk_cell BK109.out 6).trans rfl
               have hfz45_0:=blk_frozen BK109.out 0
               have hfz45_1:=blk_frozen BK109.out 1
               have hfz45_2:=blk_frozen BK109.out 2
               have hfz45_3:=blk_frozen BK109.out 3
               have hfz45_4:=blk_frozen BK109.out 4
               have hfz45_5:=blk_frozen BK109.out 5
               have hfz45_6:=blk_frozen BK109.out 6
               go_wp2_with (first | (go_at_call 69; (with_reducible refine (lines_Right.calls _ _ l0_5 false _ ?side1 ?side2 A39.out).mono ?_); (case side1 => repeat (first | exact (Kd.C_below HR0_5.out HB.out) | (with_reducible refine Kd.C_alloc ?_ _) | (with_reducible refine Kd.C_drewN ?_ _) | (with_reducible refine Kd.C_drew ?_))); (case side2 => exact HC0_5.out); rintro e w' ⟨rfl,⟨nd,rfl⟩⟩))
               go_ret
               exact ⟨by first | rfl | (simp [errW_none,errW_some] <;> rfl) | (simp [*,errW_none,errW_some] <;> rfl),by repeat (first | (with_reducible first | exact HB.out | apply below_alloc | apply pw_below_drewN | apply below_drew1 | refine below_set ?_ GE109.out) | exact HB.out)⟩
             ·rw [if_neg c38] at H
              have c38b0 : decide (a0_4 ≤ 1073741824) = false:=decide_eq_false c38
              clear c38
              obtain rfl:=Option.some.inj H
              have hcz46_0 : wc.cell? ⟨gb109,0,none⟩ = some (.int .i64 a0_0):=(blk_cell BK109.out 0).trans rfl
              have hcz46_1 : wc.cell? ⟨gb109,1,none⟩ = some (.string a0_1):=(blk_cell BK109.out 1).trans rfl
              have hcz46_2 : wc.cell? ⟨gb109,2,none⟩ = some (.string a0_2):=(blk_cell BK109.out 2).trans rfl
              have hcz46_3 : wc.cell? ⟨gb109,3,none⟩ = some (.string a0_3):=(blk_cell BK109.out 3).trans rfl
              have hcz46_4 : wc.cell? ⟨gb109,4,none⟩ = some (.int .i64 a0_4):=(blk_cell BK109.out 4).trans rfl
              have hcz46_5 : wc.cell? ⟨gb109,5,none⟩ = some (.slice A0_5 l0_5.length c0_5):=(blk_cell BK109.out 5).trans rfl
              have hcz46_6 : wc.cell? ⟨gb109,6,none⟩ = some (.slice A0_6 l0_6.length c0_6):=(blk_cell BK109.out 6).trans rfl
              have hfz46_0:=blk_frozen BK109.out 0
              have hfz46_1:=blk_frozen BK109.out 1
              have hfz46_2:=blk_frozen BK109.out 2
              have hfz46_3:=blk_frozen BK109.out 3
              have hfz46_4:=blk_frozen BK109.out 4
              have hfz46_5:=blk_frozen BK109.out 5
              have hfz46_6:=blk_frozen BK109.out 6
              go_wp2
              go_ret
              exact ⟨by first | rfl | (simp [errW_none,errW_some] <;> rfl) | (simp [*,errW_none,errW_some] <;> rfl),by repeat (first | (with_reducible first | exact HB.out | apply below_alloc | apply pw_below_drewN | apply below_drew1 | refine below_set ?_ GE109.out) | exact HB.out)⟩
            ·rw [if_neg c37] at H
             have c37b0 : decide (0 ≤ a0_4) = false:=decide_eq_false c37
             clear c37
             obtain rfl:=Option.some.inj H
             have hcz47_0 : wc.cell? ⟨gb109,0,none⟩ = some (.int .i64 a0_0):=(blk_cell BK109.out 0).trans rfl
             have hcz47_1 : wc.cell? ⟨gb109,1,none⟩ = some (.string a0_1):=(blk_cell BK109.out 1).trans rfl
             have hcz47_2 : wc.cell? ⟨gb109,2,none⟩ = some (.string a0_2):=(blk_cell BK109.out 2).trans rfl
             have hcz47_3 : wc.cell? ⟨gb109,3,none⟩ = some (.string a0_3):=(blk_cell BK109.out 3).trans rfl
             have hcz47_4 : wc.cell? ⟨gb109,4,none⟩ = some (.int .i64 a0_4):=(blk_cell BK109.out 4).trans rfl
             have hcz47_5 : wc.cell? ⟨gb109,5,none⟩ = some (.slice A0_5 l0_5.length c0_5):=(blk_cell BK109.out 5).trans rfl
             have hcz47_6 : wc.cell? ⟨gb109,6,none⟩ = some (.slice A0_6 l0_6.length c0_6):=(blk_cell BK109.out 6).trans rfl
             have hfz47_0:=blk_frozen BK109.out 0
             have hfz47_1:=blk_frozen BK109.out 1
             have hfz47_2:=blk_frozen BK109.out 2
             have hfz47_3:=blk_frozen BK109.out 3
             have hfz47_4:=blk_frozen BK109.out 4
             have hfz47_5:=blk_frozen BK109.out 5
             have hfz47_6:=blk_frozen BK109.out 6
             go_wp2
             go_ret
             exact ⟨by first | rfl | (simp [errW_none,errW_some] <;> rfl) | (simp [*,errW_none,errW_some] <;> rfl),by repeat (first | (with_reducible first | exact HB.out | apply below_alloc | apply pw_below_drewN | apply below_drew1 | refine below_set ?_ GE109.out) | exact HB.out)⟩
           ·rw [if_neg c36] at H
            have c36b0 : (a0_2.toList == ([] : List UInt8)) = false:=beq_eq_false_iff_ne.mpr c36
            have c36b1 : (a0_2.toList != ([] : List UInt8)) = true:=bne_iff_ne.mpr c36
            obtain rfl:=Option.some.inj H
            have hcz48_0 : wc.cell? ⟨gb109,0,none⟩ = some (.int .i64 a0_0):=(blk_cell BK109.out 0).trans rfl
            have hcz48_1 : wc.cell? ⟨gb109,1,none⟩ = some (.string a0_1):=(blk_cell BK109.out 1).trans rfl
            have hcz48_2 : wc.cell? ⟨gb109,2,none⟩ = some (.string a0_2):=(blk_cell BK109.out 2).trans rfl
            have hcz48_3 : wc.cell? ⟨gb109,3,none⟩ = some (.string a0_3):=(blk_cell BK109.out 3).trans rfl
            have hcz48_4 : wc.cell? ⟨gb109,4,none⟩ = some (.int .i64 a0_4):=(blk_cell BK109.out 4).trans rfl
            have hcz48_5 : wc.cell? ⟨gb109,5,none⟩ = some (.slice A0_5 l0_5.length c0_5):=(blk_cell BK109.out 5).trans rfl
            have hcz48_6 : wc.cell? ⟨gb109,6,none⟩ = some (.slice A0_6 l0_6.length c0_6):=(blk_cell BK109.out 6).trans rfl
            have hfz48_0:=blk_frozen BK109.out 0
            have hfz48_1:=blk_frozen BK109.out 1
            have hfz48_2:=blk_frozen BK109.out 2
            have hfz48_3:=blk_frozen BK109.out 3
            have hfz48_4:=blk_frozen BK109.out 4
            have hfz48_5:=blk_frozen BK109.out 5
            have hfz48_6:=blk_frozen BK109.out 6
            go_wp2
            go_ret
            exact ⟨by first | rfl | (simp [errW_none,errW_some] <;> rfl) | (simp [*,errW_none,errW_some] <;> rfl),by repeat (first | (with_reducible first | exact HB.out | apply below_alloc | apply pw_below_drewN | apply below_drew1 | refine below_set ?_ GE109.out) | exact HB.out)⟩
          ·rw [if_neg c35] at H
           have c35b0 : (a0_0 == 7) = false:=beq_eq_false_iff_ne.mpr c35
           have c35b1 : (a0_0 != 7) = true:=bne_iff_ne.mpr c35
           by_cases c49 : a0_2.toList = ([] : List UInt8)
           ·rw [if_pos c49] at H
            have c49b0 : (a0_2.toList == ([] : List UInt8)) = true:=beq_iff_eq.mpr c49
            have c49b1 : (a0_2.toList != ([] : List UInt8)) = false:=bne_eq_false_iff_eq.mpr c49
            clear c49
            by_cases c50 : a0_0 ≥ 1
            ·rw [if_pos c50] at H
             have c50b0 : decide (1 ≤ a0_0) = true:=decide_eq_true c50
             clear c50
             obtain rfl:=Option.some.inj H
             have hcz51_0 : wc.cell? ⟨gb109,0,none⟩ = some (.int .i64 a0_0):=(blk_cell BK109.out 0).trans rfl
             have hcz51_1 : wc.cell? ⟨gb109,1,none⟩ = some (.string a0_1):=(blk_cell BK109.out 1).trans rfl
             have hcz51_2 : wc.cell? ⟨gb109,2,none⟩ = some (.string a0_2):=(blk_cell BK109.out 2).trans rfl
             have hcz51_3 : wc.cell? ⟨gb109,3,none⟩ = some (.string a0_3):=(blk_cell BK109.out 3).trans rfl
             have hcz51_4 : wc.cell? ⟨gb109,4,none⟩ = some (.int .i64 a0_4):=(blk_cell BK109.out 4).trans rfl
             have hcz51_5 : wc.cell? ⟨gb109,5,none⟩ = some (.slice A0_5 l0_5.length c0_5):=(blk_cell BK109.out 5).trans rfl
             have hcz51_6 : wc.cell? ⟨gb109,6,none⟩ = some (.slice A0_6 l0_6.length c0_6):=(blk_cell BK109.out 6).trans rfl
             have hfz51_0:=blk_frozen BK109.out 0
             have hfz51_1:=blk_frozen BK109.out 1
             have hfz51_2:=blk_frozen BK109.out 2
             have hfz51_3:=blk_frozen BK109.out 3
             have hfz51_4:=blk_frozen BK109.out 4
             have hfz51_5:=blk_frozen BK109.out 5
             have hfz51_6:=blk_frozen BK109.out 6
             go_wp2
             go_ret
             exact ⟨by first | rfl | (simp [errW_none,errW_some] <;> rfl) | (simp [*,errW_none,errW_some] <;> rfl),by repeat (first | (with_reducible first | exact HB.out | apply below_alloc | apply pw_below_drewN | apply below_drew1 | refine below_set ?_ GE109.out) | exact HB.out)⟩
            ·rw [if_neg c50] at H
             have c50b0 : decide (1 ≤ a0_0) = false:=decide_eq_false c50
             clear c50
             obtain rfl:=Option.some.inj H
             have hcz52_0 : wc.cell? ⟨gb109,0,none⟩ = some (.int .i64 a0_0):=(blk_cell BK109.out 0).trans rfl
             have hcz52_1 : wc.cell? ⟨gb109,1,none⟩ = some (.string a0_1):=(blk_cell BK109.out 1).trans rfl
             have hcz52_2 : wc.cell? ⟨gb109,2,none⟩ = some (.string a0_2):=(blk_cell BK109.out 2).trans rfl
             have hcz52_3 : wc.cell? ⟨gb109,3,none⟩ = some (.string a0_3):=(blk_cell BK109.out 3).trans rfl
             have hcz52_4 : wc.cell? ⟨gb109,4,none⟩ = some (.int .i64 a0_4):=(blk_cell BK109.out 4).trans rfl
             have hcz52_5 : wc.cell? ⟨gb109,5,none⟩ = some (.slice A0_5 l0_5.length c0_5):=(blk_cell BK109.out 5).trans rfl
             have hcz52_6 : wc.cell? ⟨gb109,6,none⟩ = some (.slice A0_6 l0_6.length c0_6):=(blk_cell BK109.out 6).trans rfl
             have hfz52_0:=blk_frozen BK109.out 0
             have hfz52_1:=blk_frozen BK109.out 1
             have hfz52_2:=blk_frozen BK109.out 2
             have hfz52_3:=blk_frozen BK109.out 3
             have hfz52_4:=blk_frozen BK109.out 4
             have hfz52_5:=blk_frozen BK109.out 5
             have hfz52_6:=blk_frozen BK109.out 6
             go_wp2
             go_ret
             exact ⟨by first | rfl | (simp [errW_none,errW_some] <;> rfl) | (simp [*,errW_none,errW_some] <;> rfl),by repeat (first | (with_reducible first | exact HB.out | apply below_alloc | apply pw_below_drewN | apply below_drew1 | refine below_set ?_ GE109.out) | exact HB.out)⟩
           ·rw [if_neg c49] at H
            have c49b0 : (a0_2.toList == ([] : List UInt8)) = false:=beq_eq_false_iff_ne.mpr c49
            have c49b1 : (a0_2.toList != ([] : List UInt8)) = true:=bne_iff_ne.mpr c49
            obtain rfl:=Option.some.inj H
            have hcz53_0 : wc.cell? ⟨gb109,0,none⟩ = some (.int .i64 a0_0):=(blk_cell BK109.out 0).trans rfl
            have hcz53_1 : wc.cell? ⟨gb109,1,none⟩ = some (.string a0_1):=(blk_cell BK109.out 1).trans rfl
            have hcz53_2 : wc.cell? ⟨gb109,2,none⟩ = some (.string a0_2):=(blk_cell BK109.out 2).trans rfl
            have hcz53_3 : wc.cell? ⟨gb109,3,none⟩ = some (.string a0_3):=(blk_cell BK109.out 3).trans rfl
            have hcz53_4 : wc.cell? ⟨gb109,4,none⟩ = some (.int .i64 a0_4):=(blk_cell BK109.out 4).trans rfl
            have hcz53_5 : wc.cell? ⟨gb109,5,none⟩ = some (.slice A0_5 l0_5.length c0_5):=(blk_cell BK109.out 5).trans rfl
            have hcz53_6 : wc.cell? ⟨gb109,6,none⟩ = some (.slice A0_6 l0_6.length c0_6):=(blk_cell BK109.out 6).trans rfl
            have hfz53_0:=blk_frozen BK109.out 0
            have hfz53_1:=blk_frozen BK109.out 1
            have hfz53_2:=blk_frozen BK109.out 2
            have hfz53_3:=blk_frozen BK109.out 3
            have hfz53_4:=blk_frozen BK109.out 4
            have hfz53_5:=blk_frozen BK109.out 5
            have hfz53_6:=blk_frozen BK109.out 6
            go_wp2
            go_ret
            exact ⟨by first | rfl | (simp [errW_none,errW_some] <;> rfl) | (simp [*,errW_none,errW_some] <;> rfl),by repeat (first | (with_reducible first | exact HB.out | apply below_alloc | apply pw_below_drewN | apply below_drew1 | refine below_set ?_ GE109.out) | exact HB.out)⟩
        ·rw [if_neg c25] at H
         have c25b0 : (a0_3.toList == ([] : List UInt8)) = false:=beq_eq_false_iff_ne.mpr c25
         have c25b1 : (a0_3.toList != ([] : List UInt8)) = true:=bne_iff_ne.mpr c25
         obtain rfl:=Option.some.inj H
         have hcz54_0 : wc.cell? ⟨gb109,0,none⟩ = some (.int .i64 a0_0):=(blk_cell BK109.out 0).trans rfl
         have hcz54_1 : wc.cell? ⟨gb109,1,none⟩ = some (.string a0_1):=(blk_cell BK109.out 1).trans rfl
         have hcz54_2 : wc.cell? ⟨gb109,2,none⟩ = some (.string a0_2):=(blk_cell BK109.out 2).trans rfl
         have hcz54_3 : wc.cell? ⟨gb109,3,none⟩ = some (.string a0_3):=(blk_cell BK109.out 3).trans rfl
         have hcz54_4 : wc.cell? ⟨gb109,4,none⟩ = some (.int .i64 a0_4):=(blk_cell BK109.out 4).trans rfl
         have hcz54_5 : wc.cell? ⟨gb109,5,none⟩ = some (.slice A0_5 l0_5.length c0_5):=(blk_cell BK109.out 5).trans rfl
         have hcz54_6 : wc.cell? ⟨gb109,6,none⟩ = some (.slice A0_6 l0_6.length c0_6):=(blk_cell BK109.out 6).trans rfl
         have hfz54_0:=blk_frozen BK109.out 0
         have hfz54_1:=blk_frozen BK109.out 1
         have hfz54_2:=blk_frozen BK109.out 2
         have hfz54_3:=blk_frozen BK109.out 3
         have hfz54_4:=blk_frozen BK109.out 4
         have hfz54_5:=blk_frozen BK109.out 5
         have hfz54_6:=blk_frozen BK109.out 6
         go_wp2
         go_ret
         exact ⟨by first | rfl | (simp [errW_none,errW_some] <;> rfl) | (simp [*,errW_none,errW_some] <;> rfl),by repeat (first | (with_reducible first | exact HB.out | apply below_alloc | apply pw_below_drewN | apply below_drew1 | refine below_set ?_ GE109.out) | exact HB.out)⟩

end Go.Proofs.YthhohbidjhcjeaaGreatDoor.Q
namespace Go.Proofs.YthhohbidjhcjeaaGreatDoor.H
open Go.RowKit Go.Proofs.YthhohbidjhcjeaaGreatDoorW.PrintWords Go.Proofs.YthhohbidjhcjeaaGreatDoorW.PrintLast Go.Proofs.YthhohbidjhcjeaaGreatDoorW.PrintMore
open Go.Proofs.YthhohbidjhcjeaaGreatDoor.Q
def oppC : Array Value:=#[.int .i64 0,.int .i64 2,.int .i64 1,.int .i64 4,.int .i64 3,.int .i64 6,.int .i64 5,.int .i64 7,.int .i64 8,.int .i64 9,.int .i64 10]

set_option maxHeartbeats 400000 in
theorem opp_calls (w : World) : Calls Tryz.prog 76 #[] w fun e w' => e = .returned (.agg oppC) ∧ w' = w.alloc (.cells oppC 86):=by
 go_enter Tryz.func76,Tryz.ntmps76
 go_wp2
 exact bodyPost_ret (v:=.agg oppC) (by simp [results,Tryz.results76,go_sem,oppC]) rfl ⟨rfl,rfl⟩

set_option maxRecDepth 100000 in
set_option maxHeartbeats 2000000 in
theorem inv_add (k o : Int) (h1 : 1 ≤ k) (h6 : k ≤ 6) (hi : ∀ w,(Instr.index 86 (.agg oppC) (.int .i64 k)).run Tryz.prog w = .ok (.int .i64 o) w) (a1 a2 a3 : ByteArray) (a4 : Int) (A5 : Option Addr) (n5 c5 : Nat) (A6 : Option Addr) (n6 c6 : Nat) (w : World) :
  Calls Tryz.prog 39 #[.agg #[.int .i64 k,.string a1,.string a2,.string a3,.int .i64 a4,.slice A5 n5 c5,.slice A6 n6 c6]] w fun e w' =>
   e = .returned (.agg #[.int .i64 o,.string a1,.string a2,.string a3,.int .i64 a4,.slice A5 n5 c5,.slice A6 n6 c6]) ∧ Below w.heap.size w w':=by
 go_enter Tryz.func39,Tryz.ntmps39
 go_wp2_with (fail)
 go_region_with (go_at_call 76; refine (opp_calls _).mono ?_; rintro e w' ⟨rfl,rfl⟩)
 all_goals go_wp2
 all_goals (try (go_region; all_goals go_wp2))
 all_goals
  refine bodyPost_ret (v:=.agg #[.int .i64 o,.string a1,.string a2,.string a3,.int .i64 a4,.slice A5 n5 c5,.slice A6 n6 c6]) (by simp [results,Tryz.results39,go_sem]) rfl ⟨rfl,?_⟩
  repeat (first | exact Below.refl _ _ | refine Below.setCell ?_ (by simp <;> omega) _ | refine Below.alloc ?_ (by simp <;> omega) _ | refine Below.drew ?_)

set_option maxRecDepth 100000 in
set_option maxHeartbeats 2000000 in
theorem inv8 (a1 a2 a3 : ByteArray) (a4 : Int) (A5 : Option Addr) (n5 c5 : Nat) (A6 : Option Addr) (n6 c6 : Nat) (w : World) :
  Calls Tryz.prog 39 #[.agg #[.int .i64 8,.string a1,.string a2,.string a3,.int .i64 a4,.slice A5 n5 c5,.slice A6 n6 c6]] w fun e w' =>
   e = .returned (.agg #[.int .i64 8,.string a1,.string a3,.string a2,.int .i64 a4,.slice A5 n5 c5,.slice A6 n6 c6]) ∧ Below w.heap.size w w':=by
 have hi : ∀ w,(Instr.index 86 (.agg oppC) (.int .i64 8)).run Tryz.prog w = .ok (.int .i64 8) w:=fun _ => by kernel_rfl
 go_enter Tryz.func39,Tryz.ntmps39
 go_wp2_with (fail)
 go_region_with (go_at_call 76; refine (opp_calls _).mono ?_; rintro e w' ⟨rfl,rfl⟩)
 all_goals go_wp2
 all_goals (go_region; all_goals go_wp2)
 all_goals
  refine bodyPost_ret (v:=.agg #[.int .i64 8,.string a1,.string a3,.string a2,.int .i64 a4,.slice A5 n5 c5,.slice A6 n6 c6]) (by simp [results,Tryz.results39,go_sem]) rfl ⟨rfl,?_⟩
  repeat (first | exact Below.refl _ _ | refine Below.setCell ?_ (by simp <;> omega) _ | refine Below.alloc ?_ (by simp <;> omega) _ | refine Below.drew ?_)

set_option maxRecDepth 100000 in
set_option maxHeartbeats 2000000 in
theorem inv9 (a1 a2 a3 : ByteArray) (a4 : Int) (A5 : Option Addr) (n5 c5 : Nat) (A6 : Option Addr) (n6 c6 : Nat) (w : World) :
  Calls Tryz.prog 39 #[.agg #[.int .i64 9,.string a1,.string a2,.string a3,.int .i64 a4,.slice A5 n5 c5,.slice A6 n6 c6]] w fun e w' =>
   e = .returned (.agg #[.int .i64 9,.string a1,.string a3,.string a2,.int .i64 a4,.slice A5 n5 c5,.slice A6 n6 c6]) ∧ Below w.heap.size w w':=by
 have hi : ∀ w,(Instr.index 86 (.agg oppC) (.int .i64 9)).run Tryz.prog w = .ok (.int .i64 9) w:=fun _ => by kernel_rfl
 go_enter Tryz.func39,Tryz.ntmps39
 go_wp2_with (fail)
 go_region_with (go_at_call 76; refine (opp_calls _).mono ?_; rintro e w' ⟨rfl,rfl⟩)
 all_goals go_wp2
 all_goals (go_region; all_goals go_wp2)
 all_goals
  refine bodyPost_ret (v:=.agg #[.int .i64 9,.string a1,.string a3,.string a2,.int .i64 a4,.slice A5 n5 c5,.slice A6 n6 c6]) (by simp [results,Tryz.results39,go_sem]) rfl ⟨rfl,?_⟩
  repeat (first | exact Below.refl _ _ | refine Below.setCell ?_ (by simp <;> omega) _ | refine Below.alloc ?_ (by simp <;> omega) _ | refine Below.drew ?_)

set_option maxRecDepth 100000 in
set_option maxHeartbeats 2000000 in
theorem inv10 (a1 a2 a3 : ByteArray) (a4 : Int) (A5 : Option Addr) (n5 c5 : Nat) (A6 : Option Addr) (n6 c6 : Nat) (w : World) :
  Calls Tryz.prog 39 #[.agg #[.int .i64 10,.string a1,.string a2,.string a3,.int .i64 a4,.slice A5 n5 c5,.slice A6 n6 c6]] w fun e w' =>
   e = .returned (.agg #[.int .i64 10,.string a2,.string a1,.string a3,.int .i64 a4,.slice A5 n5 c5,.slice A6 n6 c6]) ∧ Below w.heap.size w w':=by
 have hi : ∀ w,(Instr.index 86 (.agg oppC) (.int .i64 10)).run Tryz.prog w = .ok (.int .i64 10) w:=fun _ => by kernel_rfl
 go_enter Tryz.func39,Tryz.ntmps39
 go_wp2_with (fail)
 go_region_with (go_at_call 76; refine (opp_calls _).mono ?_; rintro e w' ⟨rfl,rfl⟩)
 all_goals go_wp2
 all_goals (go_region; all_goals go_wp2)
 all_goals
  refine bodyPost_ret (v:=.agg #[.int .i64 10,.string a2,.string a1,.string a3,.int .i64 a4,.slice A5 n5 c5,.slice A6 n6 c6]) (by simp [results,Tryz.results39,go_sem]) rfl ⟨rfl,?_⟩
  repeat (first | exact Below.refl _ _ | refine Below.setCell ?_ (by simp <;> omega) _ | refine Below.alloc ?_ (by simp <;> omega) _ | refine Below.drew ?_)

set_option maxRecDepth 100000 in
set_option maxHeartbeats 2000000 in
theorem inv7 (a1 a2 a3 : ByteArray) (a4 : Int) (A5 : Option Addr) (n5 c5 : Nat) (A6 : Option Addr) (n6 c6 : Nat) (w : World) :
  Calls Tryz.prog 39 #[.agg #[.int .i64 7,.string a1,.string a2,.string a3,.int .i64 a4,.slice A5 n5 c5,.slice A6 n6 c6]] w fun e w' =>
   e = .returned (.agg #[.int .i64 7,.string a1,.string a2,.string a3,.int .i64 a4,.slice A6 n6 c6,.slice A5 n5 c5]) ∧ Below w.heap.size w w':=by
 have hi : ∀ w,(Instr.index 86 (.agg oppC) (.int .i64 7)).run Tryz.prog w = .ok (.int .i64 7) w:=fun _ => by kernel_rfl
 go_enter Tryz.func39,Tryz.ntmps39
 go_wp2_with (fail)
 go_region_with (go_at_call 76; refine (opp_calls _).mono ?_; rintro e w' ⟨rfl,rfl⟩)
 all_goals go_wp2
 all_goals (go_region; all_goals go_wp2)
 all_goals
  refine bodyPost_ret (v:=.agg #[.int .i64 7,.string a1,.string a2,.string a3,.int .i64 a4,.slice A6 n6 c6,.slice A5 n5 c5]) (by simp [results,Tryz.results39,go_sem]) rfl ⟨rfl,?_⟩
  repeat (first | exact Below.refl _ _ | refine Below.setCell ?_ (by simp <;> omega) _ | refine Below.alloc ?_ (by simp <;> omega) _ | refine Below.drew ?_)

set_option maxRecDepth 100000 in
set_option maxHeartbeats 2000000 in
theorem inv_no (k : Int) (hk : k < 1 ∨ 10 < k) (a1 a2 a3 : ByteArray) (a4 : Int) (A5 : Option Addr) (n5 c5 : Nat) (A6 : Option Addr) (n6 c6 : Nat) (w : World) :
  Calls Tryz.prog 39 #[.agg #[.int .i64 k,.string a1,.string a2,.string a3,.int .i64 a4,.slice A5 n5 c5,.slice A6 n6 c6]] w fun e w' =>
   e = .returned (.agg #[.int .i64 0,.string ⟨#[]⟩,.string ⟨#[]⟩,.string ⟨#[]⟩,.int .i64 0,.slice none 0 0,.slice none 0 0]) ∧ Below w.heap.size w w':=by
 rcases hk with hk | hk
 ·go_enter Tryz.func39,Tryz.ntmps39
  go_wp2
  refine bodyPost_ret (v:=.agg #[.int .i64 0,.string ⟨#[]⟩,.string ⟨#[]⟩,.string ⟨#[]⟩,.int .i64 0,.slice none 0 0,.slice none 0 0]) (by simp [results,Tryz.results39,go_sem]) rfl ⟨rfl,?_⟩
  repeat (first | exact Below.refl _ _ | refine Below.setCell ?_ (by simp <;> omega) _ | refine Below.alloc ?_ (by simp <;> omega) _ | refine Below.drew ?_)
 ·have h1 : ¬ k < 1:=by omega
  go_enter Tryz.func39,Tryz.ntmps39
  go_wp2
  refine bodyPost_ret (v:=.agg #[.int .i64 0,.string ⟨#[]⟩,.string ⟨#[]⟩,.string ⟨#[]⟩,.int .i64 0,.slice none 0 0,.slice none 0 0]) (by simp [results,Tryz.results39,go_sem]) rfl ⟨rfl,?_⟩
  repeat (first | exact Below.refl _ _ | refine Below.setCell ?_ (by simp <;> omega) _ | refine Below.alloc ?_ (by simp <;> omega) _ | refine Below.drew ?_)

def opp (k : Int) : Int:=if k % 2 = 1 then k + 1 else k - 1
def invS (p : S25) : S25 :=
 if p.f0 < 1 ∨ 10 < p.f0 then z25
 else if p.f0 = 7 then ⟨7,p.f1,p.f2,p.f3,p.f4,p.f6,p.f5⟩
 else if p.f0 = 8 then ⟨8,p.f1,p.f3,p.f2,p.f4,p.f5,p.f6⟩
 else if p.f0 = 9 then ⟨9,p.f1,p.f3,p.f2,p.f4,p.f5,p.f6⟩
 else if p.f0 = 10 then ⟨10,p.f2,p.f1,p.f3,p.f4,p.f5,p.f6⟩
 else ⟨opp p.f0,p.f1,p.f2,p.f3,p.f4,p.f5,p.f6⟩

set_option maxRecDepth 100000 in
theorem idx_opp (k : Int) (h1 : 1 ≤ k) (h6 : k ≤ 6) : ∀ w,(Instr.index 86 (.agg oppC) (.int .i64 k)).run Tryz.prog w = .ok (.int .i64 (opp k)) w:=by
 have : k = 1 ∨ k = 2 ∨ k = 3 ∨ k = 4 ∨ k = 5 ∨ k = 6:=by omega
 rcases this with rfl | rfl | rfl | rfl | rfl | rfl <;> exact fun _ => by kernel_rfl

theorem inv_cells (x : S25) (A5 : Option Addr) (c5 : Nat) (A6 : Option Addr) (c6 : Nat) (w : World) (ok : Nat → Prop) (l5 : x.f5.length ≤ c5) (g5 : Kd.F Kd.string w ok A5 x.f5.length x.f5) (l6 : x.f6.length ≤ c6) (g6 : Kd.F Kd.string w ok A6 x.f6.length x.f6) :
  Calls Tryz.prog 39 #[.agg #[.int .i64 x.f0,.string x.f1,.string x.f2,.string x.f3,.int .i64 x.f4,.slice A5 x.f5.length c5,.slice A6 x.f6.length c6]] w fun e w' =>
   ∃ B5 d5 B6 d6,e = .returned (.agg #[.int .i64 (invS x).f0,.string (invS x).f1,.string (invS x).f2,.string (invS x).f3,.int .i64 (invS x).f4,.slice B5 (invS x).f5.length d5,.slice B6 (invS x).f6.length d6]) ∧
    (invS x).f5.length ≤ d5 ∧ Kd.F Kd.string w' ok B5 (invS x).f5.length (invS x).f5 ∧ (invS x).f6.length ≤ d6 ∧ Kd.F Kd.string w' ok B6 (invS x).f6.length (invS x).f6 ∧ Below w.heap.size w w':=by
 obtain ⟨x0,x1,x2,x3,x4,x5,x6⟩:=x
 simp only [invS]
 by_cases h : x0 < 1 ∨ 10 < x0
 ·rw [if_pos h]
  refine (inv_no x0 h x1 x2 x3 x4 A5 _ c5 A6 _ c6 w).mono ?_
  rintro e w' ⟨rfl,hb⟩
  exact ⟨none,0,none,0,rfl,Nat.le_refl _,Kd.F_nil _ _ _,Nat.le_refl _,Kd.F_nil _ _ _,hb⟩
 rw [if_neg h]
 by_cases h7 : x0 = 7
 ·subst h7
  rw [if_pos rfl]
  refine (inv7 x1 x2 x3 x4 A5 _ c5 A6 _ c6 w).mono ?_
  rintro e w' ⟨rfl,hb⟩
  exact ⟨_,_,_,_,rfl,l6,Kd.F_below g6 hb,l5,Kd.F_below g5 hb,hb⟩
 rw [if_neg h7]
 by_cases h8 : x0 = 8
 ·subst h8
  rw [if_pos rfl]
  refine (inv8 x1 x2 x3 x4 A5 _ c5 A6 _ c6 w).mono ?_
  rintro e w' ⟨rfl,hb⟩
  exact ⟨_,_,_,_,rfl,l5,Kd.F_below g5 hb,l6,Kd.F_below g6 hb,hb⟩
 rw [if_neg h8]
 by_cases h9 : x0 = 9
 ·subst h9
  rw [if_pos rfl]
  refine (inv9 x1 x2 x3 x4 A5 _ c5 A6 _ c6 w).mono ?_
  rintro e w' ⟨rfl,hb⟩
  exact ⟨_,_,_,_,rfl,l5,Kd.F_below g5 hb,l6,Kd.F_below g6 hb,hb⟩
 rw [if_neg h9]
 by_cases h10 : x0 = 10
 ·subst h10
  rw [if_pos rfl]
  refine (inv10 x1 x2 x3 x4 A5 _ c5 A6 _ c6 w).mono ?_
  rintro e w' ⟨rfl,hb⟩
  exact ⟨_,_,_,_,rfl,l5,Kd.F_below g5 hb,l6,Kd.F_below g6 hb,hb⟩
 rw [if_neg h10]
 refine (inv_add x0 (opp x0) (by omega) (by omega) (idx_opp x0 (by omega) (by omega)) x1 x2 x3 x4 A5 _ c5 A6 _ c6 w).mono ?_
 rintro e w' ⟨rfl,hb⟩
 exact ⟨_,_,_,_,rfl,l5,Kd.F_below g5 hb,l6,Kd.F_below g6 hb,hb⟩

end Go.Proofs.YthhohbidjhcjeaaGreatDoor.H
namespace Go.Proofs.YthhohbidjhcjeaaGreatDoor.Q
open Go.RowKit Go.Proofs.YthhohbidjhcjeaaGreatDoorW.PrintWords Go.Proofs.YthhohbidjhcjeaaGreatDoorW.PrintLast Go.Proofs.YthhohbidjhcjeaaGreatDoorW.PrintMore
open Go.Proofs.YthhohbidjhcjeaaGreatDoor.H
end Go.Proofs.YthhohbidjhcjeaaGreatDoor.Q
namespace Go.Proofs.YthhohbidjhcjeaaGreatDoor.Pl
open Go.RowKit Go.Proofs.YthhohbidjhcjeaaGreatDoorW.PrintWords Go.Proofs.YthhohbidjhcjeaaGreatDoorW.PrintMore Go.Proofs.YthhohbidjhcjeaaGreatDoor.Q
theorem toList_inj {a b : ByteArray} (h : a.toList = b.toList) : a = b:=by
 rw [Go.ByteArray.toList_eq,Go.ByteArray.toList_eq] at h
 obtain ⟨⟨a⟩⟩:=a
 obtain ⟨⟨b⟩⟩:=b
 simp at h
 rw [h]
theorem wrap_id {i : Int} (h0 : -9223372036854775808 ≤ i) (h : i ≤ 9223372036854775807) : wrap64 i = i:=by
 unfold wrap64
 omega
theorem wrap_1 {i n : Nat} (h : i < n) (hn : n ≤ 140737488355328) : wrap64 ((i : Int) + 1) = ((i + 1 : Nat) : Int):=by
 unfold wrap64
 omega
theorem mn_le (a b : Int) : mn a b ≤ b:=by unfold mn; split <;> omega
theorem mn_nn {a b : Int} (ha : 0 ≤ a) (hb : 0 ≤ b) : 0 ≤ mn a b:=by unfold mn; split <;> omega
theorem rdOf_get {α : Type} (d : α) (xs : List α) {i : Nat} (h : i < xs.length) : rdOf d xs (i : Int) = xs[i]:=by
 simp [rdOf,List.getD_eq_getElem?_getD,h]
theorem rd_T24_get (xs : List S25) {i : Nat} (h : i < xs.length) : rd_T25 xs (i : Int) = xs[i]:=by
 simp [rd_T25,List.getD_eq_getElem?_getD,h]

def Ok24 (x : S25) : Prop:=x.f5.length ≤ 140737488355328 ∧ x.f6.length ≤ 140737488355328
open Go.RowKit Go.Proofs.YthhohbidjhcjeaaGreatDoorW.PrintWords Go.Proofs.YthhohbidjhcjeaaGreatDoorW.PrintMore Go.Proofs.YthhohbidjhcjeaaGreatDoor.Q Go.Proofs.YthhohbidjhcjeaaGreatDoor.H
structure Okp (x : S25) : Prop where
 ok : Ok24 x
 s1 : x.f1.size ≤ 140737488355328
 s2 : x.f2.size ≤ 140737488355328
 s3 : x.f3.size ≤ 140737488355328
theorem okp_inv {x : S25} (h : Okp x) : Okp (invS x):=by
 obtain ⟨⟨h5,h6⟩,s1,s2,s3⟩:=h
 have z : (0 : Nat) ≤ 140737488355328:=Nat.zero_le _
 have ze : (⟨#[]⟩ : ByteArray).size ≤ 140737488355328:=Nat.zero_le _
 unfold invS
 repeat' split
 all_goals constructor
 all_goals first | exact ⟨h5,h6⟩ | exact ⟨h6,h5⟩ | exact ⟨z,z⟩ | exact s1 | exact s2 | exact s3 | exact ze

theorem size_toList (a : ByteArray) : a.toList.length = a.size:=by rw [Go.ByteArray.toList_eq]; rfl
def withinB (a b : ByteArray) : Bool:=if (a.extract 0 b.size).toList = b.toList ∧ b.size ≤ a.size then (if (a.extract b.size a.size).toList = [] then true else bt (a.extract b.size a.size) 0 == 47) else false
theorem within_f (a b : ByteArray) : path_Within.f a b = some (withinB a b):=by
 unfold path_Within.f strings_CutPrefix.f stringslite_CutPrefix.f stringslite_HasPrefix.f withinB
 by_cases h : b.size ≤ a.size
 ·have h1 : (a.size : Int) ≥ (b.size : Int):=by omega
  have h2 : (b.size : Int) ≤ (a.size : Int):=h1
  have h3 : (0 : Int) ≤ (b.size : Int):=by omega
  by_cases he : (a.extract 0 b.size).toList = b.toList
  ·have he' : ((a.extract 0 b.size).toList == b.toList) = true:=by simpa using he
   simp only [if_pos h1,if_pos h3,Int.toNat_natCast,Option.bind_some,he',if_true,if_pos (And.intro he h)]
   by_cases hz : (a.extract b.size a.size).toList = []
   ·simp only [hz,if_true]
   ·have hp : (0 : Int) < ((a.extract b.size a.size).size : Int):=by
     have:=size_toList (a.extract b.size a.size)
     have : (a.extract b.size a.size).toList.length ≠ 0:=fun e => hz (List.length_eq_zero_iff.1 e)
     omega
    simp only [hz,if_false,if_pos hp]
  ·have he' : ((a.extract 0 b.size).toList == b.toList) = false:=by simpa using he
   have hn : ¬ ((a.extract 0 b.size).toList = b.toList ∧ b.size ≤ a.size):=fun e => he e.1
   simp only [if_pos h1,if_pos h3,Int.toNat_natCast,Option.bind_some,he',Bool.false_eq_true,if_false,if_neg hn]
 ·have h1 : ¬ (a.size : Int) ≥ (b.size : Int):=by omega
  have hn : ¬ ((a.extract 0 b.size).toList = b.toList ∧ b.size ≤ a.size):=fun e => h e.2
  simp only [if_neg h1,Option.bind_some,Bool.false_eq_true,if_false,if_neg hn]
def apartB (a b : ByteArray) : Bool:=if withinB a b = true then false else !withinB b a
theorem apart_f (a b : ByteArray) : path_Apart.f a b = some (apartB a b):=by
 unfold path_Apart.f apartB
 rw [within_f,within_f]
 cases withinB a b <;> rfl
theorem apart_comm (a b : ByteArray) : apartB a b = apartB b a:=by
 unfold apartB
 cases withinB a b <;> cases withinB b a <;> rfl

def inB (c : Int) : Bool:=(lines_in.f c).getD false
theorem in_f (c : Int) : lines_in.f c = some (inB c):=by
 have : ∃ r,lines_in.f c = some r:=by
  unfold lines_in.f
  repeat' split
  all_goals exact ⟨_,rfl⟩
 obtain ⟨r,hr⟩:=this
 rw [inB,hr]
 rfl
def tokenB (s : ByteArray) : Bool:=s.data.toList.all (fun b => inB (b.toNat : Int)) && (s.toList != ([] : List UInt8))
theorem token_l (s : ByteArray) (hn : s.size ≤ 140737488355328) : ∀ (d i : Nat),i + d = s.size → Ev (fun k => lines_Token.l0 k s (s.size : Int) (i : Int)) ((s.data.toList.drop i).all (fun b => inB (b.toNat : Int)) && (s.toList != ([] : List UInt8))):=by
 have hsl : s.data.toList.length = s.size:=by rw [Array.length_toList]; rfl
 intro d
 induction d with
 | zero =>
  intro i hi
  refine Ev.step (f:=fun _ => some (s.toList != ([] : List UInt8))) (fun k => ?_) ?_
  ·simp only [lines_Token.l0]
   rw [if_neg (by omega)]
  ·rw [List.drop_of_length_le (by omega)]
   simpa using Ev.now _
 | succ d ih =>
  intro i hi
  have h1 : i < s.data.toList.length:=by omega
  have h2 : i < s.size:=by omega
  have ed : s.data.toList.drop i = s.data.toList[i] :: s.data.toList.drop (i + 1):=List.drop_eq_getElem_cons h1
  have eb : bt s (i : Int) = (s.data.toList[i].toNat : Int):=by
   have:=bt_at s (i : Int) (by rw [Int.toNat_natCast]; exact h2)
   rw [← this]
   simp only [Int.toNat_natCast]
   rfl
  have key:=ih (i + 1) (by omega)
  rw [ed,List.all_cons]
  cases hb : inB (s.data.toList[i].toNat : Int) with
  | true =>
   rw [Bool.true_and]
   refine Ev.step (f:=fun k => lines_Token.l0 k s (s.size : Int) ((i + 1 : Nat) : Int)) (fun k => ?_) key
   simp only [lines_Token.l0]
   rw [if_pos (by omega),if_pos (by omega),if_pos (by omega),eb,in_f,hb,Option.bind_some,if_pos rfl,wrap_1 h2 hn]
  | false =>
   rw [Bool.false_and,Bool.false_and]
   refine Ev.step (f:=fun _ => some false) (fun k => ?_) (Ev.now _)
   simp only [lines_Token.l0]
   rw [if_pos (by omega),if_pos (by omega),if_pos (by omega),eb,in_f,hb,Option.bind_some,if_neg (by simp)]
theorem token (s : ByteArray) (hn : s.size ≤ 140737488355328) : Ev (fun k => lines_Token.f k s) (tokenB s):=by
 have h:=token_l s hn s.size 0 (by omega)
 rw [List.drop_zero] at h
 exact h

def listedB (x : S25) : Bool:=decide (0 < x.f5.length + x.f6.length) || x.f4 != 0
def kindB (x : S25) : Bool :=
 if x.f0 = 8 then tokenB x.f3 && tokenB x.f2 && (x.f3.toList != x.f2.toList)
 else if x.f0 = 9 then (x.f3.toList != x.f2.toList)
 else if x.f3.toList = ([] : List UInt8) then
  if x.f0 = 10 then rightB x.f2 && apartB x.f1 x.f2
  else if x.f0 = 7 then decide (x.f2.toList = ([] : List UInt8)) && decide (x.f4 ≥ 0) && decide (x.f4 ≤ 1073741824) && linesB x.f5 && linesB x.f6 && decide (0 < x.f5.length + x.f6.length)
  else decide (x.f2.toList = ([] : List UInt8)) && decide (x.f0 ≥ 1) && decide (x.f0 ≤ 6)
 else false
def primB (x : S25) : Bool:=rightB x.f1 && !(listedB x && x.f0 != 7) && kindB x
theorem path_f (s : ByteArray) (h : s.size ≤ 140737488355328) : path_Right.f s = some (rightB s):=if_pos h
theorem kind_j (x : S25) (hx : Okp x) : Ev (fun k => prim_Right.j1 k false x.f0 x.f1 x.f2 x.f3 x.f4 x.f5 x.f6) (kindB x):=by
 have p2:=path_f x.f2 hx.s2
 have t3:=token x.f3 hx.s3
 have t2:=token x.f2 hx.s2
 have k5:=hx.ok.1
 have k6:=hx.ok.2
 unfold kindB
 by_cases h8 : x.f0 = 8
 ·rw [if_pos h8]
  refine Ev.step (f:=fun k => (lines_Token.f k x.f3).bind fun t => if t = true then (lines_Token.f k x.f2).bind fun u => if u = true then some (x.f3.toList != x.f2.toList) else some false else some false) (fun k => ?_) ?_
  ·simp only [prim_Right.j1,if_pos h8,Bool.false_eq_true,if_false]
  ·cases h3 : tokenB x.f3 with
   | false =>
    rw [h3] at t3
    exact Ev.bind t3 (Ev.now _)
   | true =>
    rw [h3] at t3
    refine Ev.bind t3 ?_
    cases h2 : tokenB x.f2 with
    | false =>
     rw [h2] at t2
     exact Ev.bind t2 (Ev.now _)
    | true =>
     rw [h2] at t2
     exact Ev.bind t2 (Ev.now _)
 ·rw [if_neg h8]
  refine Ev.step (f:=fun _ => some _) (fun k => ?_) (Ev.now _)
  simp only [prim_Right.j1,if_neg h8,Bool.false_eq_true,if_false]
  by_cases h9 : x.f0 = 9
  ·rw [if_pos h9,if_pos h9]
  ·rw [if_neg h9,if_neg h9]
   by_cases h3 : x.f3.toList = ([] : List UInt8)
   ·rw [if_pos h3,if_pos h3]
    by_cases h10 : x.f0 = 10
    ·rw [if_pos h10,if_pos h10,p2,Option.bind_some,apart_f]
     cases rightB x.f2 <;> rfl
    ·rw [if_neg h10,if_neg h10]
     by_cases h7 : x.f0 = 7
     ·rw [if_pos h7,if_pos h7,wrap_id (by omega) (by omega)]
      have e : decide ((x.f5.length : Int) + (x.f6.length : Int) > 0) = decide (0 < x.f5.length + x.f6.length):=decide_eq_decide.2 (by omega)
      rw [e]
      by_cases h2 : x.f2.toList = ([] : List UInt8) <;> by_cases ha : x.f4 ≥ 0 <;> by_cases hb : x.f4 ≤ 1073741824 <;> cases h5 : linesB x.f5 <;> cases h6 : linesB x.f6 <;> simp [h2,ha,hb,h5,h6,lines_Right.f]
     ·rw [if_neg h7,if_neg h7]
      by_cases h2 : x.f2.toList = ([] : List UInt8) <;> by_cases ha : x.f0 ≥ 1 <;> simp [h2,ha]
   ·rw [if_neg h3,if_neg h3]
theorem prim_right (x : S25) (hx : Okp x) : Ev (fun k => prim_Right.f k x.f0 x.f1 x.f2 x.f3 x.f4 x.f5 x.f6) (primB x):=by
 have p1:=path_f x.f1 hx.s1
 have kj:=kind_j x hx
 have k5:=hx.ok.1
 have k6:=hx.ok.2
 have yes : Ev (fun k => prim_Right.j1 k true x.f0 x.f1 x.f2 x.f3 x.f4 x.f5 x.f6) false:=Ev.step (f:=fun _ => some false) (fun k => by simp only [prim_Right.j1,if_true]) (Ev.now _)
 have j0 : ∀ b : Bool,Ev (fun k => prim_Right.j0 k b x.f0 x.f1 x.f2 x.f3 x.f4 x.f5 x.f6) (rightB x.f1 && !(b && x.f0 != 7) && kindB x):=by
  intro b
  cases hr : rightB x.f1 with
  | false =>
   refine Ev.step (f:=fun k => prim_Right.j1 k true x.f0 x.f1 x.f2 x.f3 x.f4 x.f5 x.f6) (fun k => ?_) yes
   simp only [prim_Right.j0,p1,hr,Option.bind_some,Bool.false_eq_true,if_false,Bool.not_false]
  | true =>
   cases b with
   | false =>
    refine Ev.step (f:=fun k => prim_Right.j1 k false x.f0 x.f1 x.f2 x.f3 x.f4 x.f5 x.f6) (fun k => ?_) (by simpa using kj)
    simp only [prim_Right.j0,p1,hr,Option.bind_some,Bool.false_eq_true,if_false,if_true]
   | true =>
    cases h7 : (x.f0 != 7) with
    | false =>
     refine Ev.step (f:=fun k => prim_Right.j1 k false x.f0 x.f1 x.f2 x.f3 x.f4 x.f5 x.f6) (fun k => ?_) (by simpa using kj)
     simp only [prim_Right.j0,p1,hr,h7,Option.bind_some,if_true]
    | true =>
     refine Ev.step (f:=fun k => prim_Right.j1 k true x.f0 x.f1 x.f2 x.f3 x.f4 x.f5 x.f6) (fun k => ?_) (by simpa using yes)
     simp only [prim_Right.j0,p1,hr,h7,Option.bind_some,if_true]
 unfold prim_Right.f primB listedB
 by_cases h : 0 < x.f5.length + x.f6.length
 ·have hw : wrap64 ((x.f5.length : Int) + (x.f6.length : Int)) > 0:=by rw [wrap_id (by omega) (by omega)]; omega
  have:=j0 true
  refine Ev.congr (fun k => if_pos hw) ?_
  rw [decide_eq_true h,Bool.true_or]
  exact this
 ·have hw : ¬ wrap64 ((x.f5.length : Int) + (x.f6.length : Int)) > 0:=by rw [wrap_id (by omega) (by omega)]; omega
  refine Ev.congr (fun k => if_neg hw) ?_
  rw [decide_eq_false h,Bool.false_or]
  exact j0 (x.f4 != 0)
theorem dlen (s : ByteArray) : s.data.toList.length = s.size:=by rw [Array.length_toList]; rfl
theorem bt_get (s : ByteArray) (i : Nat) (h : i < s.size) : bt s (i : Int) = ((s.data.toList[i]'(by rw [dlen]; exact h)).toNat : Int):=by
 have:=bt_at s (i : Int) (by rw [Int.toNat_natCast]; exact h)
 rw [← this]
 simp only [Int.toNat_natCast]
 rfl
theorem data_inj {a b : ByteArray} (h : a.data.toList = b.data.toList) : a = b:=by
 obtain ⟨⟨a⟩⟩:=a
 obtain ⟨⟨b⟩⟩:=b
 simpa using h
theorem toList_data (a : ByteArray) : a.toList = a.data.toList:=by rw [Go.ByteArray.toList_eq]
theorem extract_data (s : ByteArray) (i j : Nat) : (s.extract i j).data.toList = (s.data.toList.take j).drop i:=by
 simp only [ByteArray.data_extract,Array.toList_extract,List.extract_eq_take_drop]
 rw [List.take_drop]
 by_cases h : i ≤ j
 ·rw [show i + (j - i) = j by omega]
 ·rw [List.drop_eq_nil_of_le (by simp; omega),List.drop_eq_nil_of_le (by simp; omega)]

theorem primB_lo {x : S25} (h : primB x = true) : 1 ≤ x.f0 ∧ x.f0 ≤ 10:=by
 unfold primB kindB at h
 simp only [Bool.and_eq_true] at h
 obtain ⟨_,hk⟩:=h
 by_cases h8 : x.f0 = 8
 ·omega
 ·rw [if_neg h8] at hk
  by_cases h9 : x.f0 = 9
  ·omega
  ·rw [if_neg h9] at hk
   by_cases h3 : x.f3.toList = ([] : List UInt8)
   ·rw [if_pos h3] at hk
    by_cases h10 : x.f0 = 10
    ·omega
    ·rw [if_neg h10] at hk
     by_cases h7 : x.f0 = 7
     ·omega
     ·rw [if_neg h7] at hk
      simp only [Bool.and_eq_true,decide_eq_true_eq] at hk
      omega
   ·rw [if_neg h3] at hk
    cases hk
theorem bne_comm' (a b : List UInt8) : (a != b) = (b != a):=by
 cases h : (a != b) <;> cases h' : (b != a) <;> simp_all
theorem primB_inv {x : S25} (h : primB x = true) : primB (invS x) = true:=by
 obtain ⟨h1,h2⟩:=primB_lo h
 obtain ⟨k,p,t,f,a,o,n⟩:=x
 dsimp only at h1 h2
 have : k = 1 ∨ k = 2 ∨ k = 3 ∨ k = 4 ∨ k = 5 ∨ k = 6 ∨ k = 7 ∨ k = 8 ∨ k = 9 ∨ k = 10:=by omega
 have hc:=apart_comm p t
 have hb:=bne_comm' f.toList t.toList
 have hl : o.length + n.length = n.length + o.length:=Nat.add_comm _ _
 rcases this with rfl | rfl | rfl | rfl | rfl | rfl | rfl | rfl | rfl | rfl
 all_goals simp only [primB,kindB,listedB,invS,opp,Bool.and_eq_true] at h ⊢
 all_goals simp_all
end Go.Proofs.YthhohbidjhcjeaaGreatDoor.Pl
namespace Go.Proofs.YthhohbidjhcjeaaGreatDoor.H
open Go.RowKit Go.Shelf Go.Proofs.YthhohbidjhcjeaaGreatDoorW.PrintWords Go.Proofs.YthhohbidjhcjeaaGreatDoorW.PrintLast Go.Proofs.YthhohbidjhcjeaaGreatDoorW.PrintMore
open Go.Proofs.YthhohbidjhcjeaaGreatDoor.Q Go.Proofs.YthhohbidjhcjeaaGreatDoor.Pl
set_option linter.unusedVariables false
set_option linter.unusedSimpArgs false
theorem within_calls (a b : ByteArray) (w : World) : Calls Tryz.prog 98 #[.string a,.string b] w fun e w' => e = .returned (.bool (withinB a b)) ∧ Below w.heap.size w w' :=
 (path_Within.calls a b _ w (within_f a b)).mono (fun e w' ⟨he,n,hw⟩ => ⟨he,by rw [hw]; exact pw_below_drewN (Below.refl _ _) n⟩)
def insideB (x q : ByteArray) : Bool:=if x = q then false else withinB x q
theorem inside_calls (x q : ByteArray) (x1 x2 x3 : Value) (g : Nat) (v0 v2 v3 v4 v5 v6 : Value) (h1 : x1.oneCell' = true) (h2 : x2.oneCell' = true) (h3 : x3.oneCell' = true) (W : World)
  (hx : W.heap[g]? = some (.cells #[v0,.string q,v2,v3,v4,v5,v6] 25 (0,0))) :
  Calls Tryz.prog 97 #[.agg #[.string x,x1,x2,x3],.pointer (some ⟨g,0,none⟩)] W fun e W' => e = .returned (.bool (insideB x q)) ∧ Below W.heap.size W W':=by
 have hB : Aside0 (Below W.heap.size W (W.alloc (.cells #[.string x,x1,x2,x3] 41))):=⟨below_alloc (Below.refl _ _) _⟩
 obtain ⟨-,b1,-,-,-,-,-⟩:=cells7 (blk_below hx hB.out)
 have hC:=fun W => within_calls x q W
 clear hx
 by_cases he : x = q
 ·subst he
  have hv : insideB x x = false:=by unfold insideB; rw [if_pos rfl]
  rw [hv]
  clear hv
  go_enter Tryz.func97,Tryz.ntmps97
  go_wp2
  go_ret
  exact ⟨rfl,hB.out⟩
 ·have hv : insideB x q = withinB x q:=by unfold insideB; rw [if_neg he]
  rw [hv]
  obtain ⟨r,hr⟩ : ∃ r,withinB x q = r:=⟨_,rfl⟩
  rw [hr] at hC
  rw [hr]
  have hne : (x.toList != q.toList) = true:=by
   rw [bne_iff_ne]
   exact fun h => he (toList_inj h)
  have hne2 : (x.toList == q.toList) = false:=by
   rw [beq_eq_false_iff_ne]
   exact fun h => he (toList_inj h)
  clear hv hr
  go_enter Tryz.func97,Tryz.ntmps97
  go_wp2_with (go_at_call 98; refine (hC _).mono ?_; rintro e w' ⟨rfl,hb⟩)
  go_ret
  exact ⟨rfl,hB.out.trans (hb.mono hB.out.size)⟩
theorem getD_get {l : List S41} {i : Nat} (h : i < l.length) : l.getD i z41 = l[i]:=by simp [List.getD,List.getElem?_eq_getElem h]
theorem any_take_succ (f : S41 → Bool) (l : List S41) (j : Nat) (h : j < l.length) : (l.take (j + 1)).any f = ((l.take j).any f || f (l.getD j z41)):=by
 rw [List.take_add_one,List.any_append,List.getElem?_eq_getElem h,getD_get h]
 simp
set_option maxHeartbeats 4000000 in
set_option maxRecDepth 1000000 in
theorem index_at (l : List S41) (A : Option Addr) (c : Nat) (q : ByteArray) (g : Nat) (v0 v2 v3 v4 v5 v6 : Value) (w : World) (hr : Kd.C k41 w A l.length l) (hl : l.length ≤ 1000000000)
  (hx : w.heap[g]? = some (.cells #[v0,.string q,v2,v3,v4,v5,v6] 25 (0,0))) :
  Calls Tryz.prog 133 #[.slice A l.length c,.func (.func 97) #[] #[.pointer (some ⟨g,0,none⟩)]] w fun e w' => (∃ i : Int,e = .returned (.int .i64 i) ∧ decide (0 ≤ i) = l.any (fun x => insideB x.f0 q)) ∧ Below w.heap.size w w':=by
 have eg : ∀ args w,(callFunc 97 args).run Tryz.prog w = .ok (.enter 97 args) w:=enters_of Tryz.func97 (by kernel_rfl) rfl
 have HR:=Aside0.mk hr
 have HX:=Aside0.mk hx
 have HL:=Aside0.mk hl
 have B0:=Aside0.mk (Below.refl w.heap.size w)
 clear hr hx
 obtain ⟨f,hf⟩ : ∃ f : S41 → Bool,f = fun x => insideB x.f0 q:=⟨_,rfl⟩
 rw [← hf]
 replace hf:=Aside0.mk hf
 go_enter Tryz.func133,Tryz.ntmps133
 go_wp2
 go_loopg [8] l.length (fun kx s8 wr => ∃ j : Nat,s8 = .int .i64 j ∧ j + kx = l.length ∧ Aside0 (Below w.heap.size w wr) ∧ Aside0 ((l.take j).any f = false))
 case atStart => exact ⟨0,rfl,by omega,B0,⟨by simp⟩⟩
 case round =>
  clear B0
  obtain ⟨j,rfl,hj,B1,hn⟩:=hrel
  by_cases hlt : j < l.length
  ·obtain ⟨ad,X,x,rfl,rx,c0,c1,c2,c3⟩:=ent_at (Kd.C_below HR.out B1.out) j hlt rfl
   have hs:=any_take_succ f l j hlt
   rw [hn.out,Bool.false_or] at hs
   have hfx : f (l.getD j z41) = insideB (l.getD j z41).f0 q:=by rw [hf.out]
   generalize hy : l.getD j z41 = y at rx c0 c1 c2 c3 hs hfx
   have hc:=inside_calls y.f0 q (.int .i64 y.f1) (.slice X y.f2.length x) (.string y.f3) g v0 v2 v3 v4 v5 v6 rfl rfl rfl wr ((B1.out.block g (blk_lt HX.out)).trans HX.out)
   have RX:=Aside0.mk rx
   have hj0 : (0 : Int) ≤ (j : Int):=by omega
   have hj1 : (j : Int) < (l.length : Int):=by omega
   replace hs:=Aside0.mk hs
   clear rx hy
   rw [← hfx] at hc
   obtain ⟨r,hfr⟩ : ∃ r,f y = r:=⟨_,rfl⟩
   rw [hfr] at hc
   replace hfr:=Aside0.mk hfr
   clear hfx
   cases r with
   | true =>
    go_wp2_with (go_at_fn 97; refine hc.mono ?_; rintro e w' ⟨rfl,hb⟩)
    go_ret
    exact ⟨⟨j,rfl,by
     have h1 : l.any f = true:=by
      rw [← List.take_append_drop (j + 1) l,List.any_append,hs.out,hfr.out]; rfl
     rw [h1]; simp⟩,B1.out.trans (hb.mono B1.out.size)⟩
   | false =>
    have hwr : IntKind.i64.wrap ((j : Int) + 1) = (((j + 1 : Nat)) : Int):=by rw [show ((j : Int) + 1) = ((j + 1 : Nat) : Int) by omega]; exact wrap_small _ (by omega) (by have:=HL.out; omega)
    go_wp2_with (go_at_fn 97; refine hc.mono ?_; rintro e w' ⟨rfl,hb⟩)
    go_roundg (l.length - (j + 1))
    case measure => omega
    case rel => exact ⟨j + 1,by first | rfl | (rw [hwr]),by omega,⟨B1.out.trans (hb.mono B1.out.size)⟩,⟨by rw [hs.out,hfr.out]⟩⟩
  ·have hje : j = l.length:=by omega
   have hnb : decide ((j : Int) < (l.length : Int)) = false:=decide_eq_false (by omega)
   have h1 : l.any f = false:=by rw [← hn.out,List.take_of_length_le (by omega)]
   go_wp2
   go_ret
   exact ⟨⟨-1,rfl,by rw [h1]; rfl⟩,B1.out⟩
theorem contains_at (l : List S41) (A : Option Addr) (c : Nat) (q : ByteArray) (g : Nat) (v0 v2 v3 v4 v5 v6 : Value) (w : World) (hr : Kd.C k41 w A l.length l) (hl : l.length ≤ 1000000000)
  (hx : w.heap[g]? = some (.cells #[v0,.string q,v2,v3,v4,v5,v6] 25 (0,0))) :
  Calls Tryz.prog 96 #[.slice A l.length c,.func (.func 97) #[] #[.pointer (some ⟨g,0,none⟩)]] w fun e w' => e = .returned (.bool (l.any (fun x => insideB x.f0 q))) ∧ Below w.heap.size w w':=by
 have hC:=index_at l A c q g v0 v2 v3 v4 v5 v6 w hr hl hx
 obtain ⟨r,hrr⟩ : ∃ r,l.any (fun x => insideB x.f0 q) = r:=⟨_,rfl⟩
 rw [hrr] at hC ⊢
 clear hr hl hx hrr
 go_enter Tryz.func96,Tryz.ntmps96
 go_wp2_with (go_at_call 133; refine hC.mono ?_; rintro e w' ⟨⟨i,rfl,hi⟩,hb⟩)
 go_ret
 exact ⟨by first | rfl | (rw [← hi]) | (simp [← hi]),hb⟩
end Go.Proofs.YthhohbidjhcjeaaGreatDoor.H
