/- The contract of the iterator of lines.pieces: it hands a line's runs, one behind the other. -/
import Derived.Test.YthhohbidjhcjeaaGreatDoorGM4
import Derived.Test.YthhohbidjhcjeaaGreatDoorGM3
import Derived.Sort.LoopGhostIn
import Derived.Maps.OwnIn
import Derived.Shelf.Strings.Builder1
import Derived.Maps.Own
import Derived.Maps.OwnOps
import Derived.Maps.Views
import Derived.Shelf.SlSorted.Search
import Derived.Test.YthhohbidjhcjeaaGreatDoorGM2
import Derived.Deep.WholeRow
import Derived.Test.YthhohbidjhcjeaaGreatDoorGM1
import Derived.RangeFuncNested
import Derived.RangeFuncBound
import Derived.RangeFuncCalls
import Derived.RangeFuncLeaves
import Derived.Shelf.Abstract
import Derived.Shelf.RegionOpen
import Derived.WalkKit
import Derived.OwnWalkIn
import Derived.TacticsInMore
import Derived.LoopNIn
import Derived.LoopIn
import Derived.Outline
import Derived.Lib.Hide
import Derived.RegionIn
import Derived.Deep.RegionWith
namespace Go.Proofs.YthhohbidjhcjeaaGreatDoor.H
open Go.RowKit Go.Shelf Go.Proofs.YthhohbidjhcjeaaGreatDoorW.PrintWords Go.Proofs.YthhohbidjhcjeaaGreatDoorW.PrintLast Go.Proofs.YthhohbidjhcjeaaGreatDoorW.PrintMore
open Go.Proofs.YthhohbidjhcjeaaGreatDoor.Q Go.Proofs.YthhohbidjhcjeaaGreatDoor.Pl Go.Proofs.YthhohbidjhcjeaaGreatDoor.RB
set_option linter.unusedVariables false
set_option linter.unusedSimpArgs false
def pieceP (r : List UInt8) : ByteArray × Bool:=(⟨r.toArray⟩,match r.head? with | some c => inU c | none => false)
def piecesP (s : ByteArray) : List (ByteArray × Bool):=(runs s.data.toList).map pieceP
theorem piecesP_nil : piecesP ⟨#[]⟩ = []:=rfl
theorem runs_head {s : List UInt8} {n : Nat} {b : Bool} (hn : 0 < n) (hl : n ≤ s.length) (hu : ∀ c ∈ s.take n,inU c = b) (hd : ∀ c,s[n]? = some c → inU c ≠ b) : runs s = s.take n :: runs (s.drop n):=by
 have h : Uni b (s.take n):=⟨fun e => by have:=congrArg List.length e; rw [List.length_take,List.length_nil] at this; omega,hu⟩
 conv => lhs; rw [← List.take_append_drop n s]
 refine runs_cons h ?_
 intro r' hr'
 cases hs : runs (s.drop n) with
 | nil => rw [hs] at hr'; cases hr'
 | cons r rest =>
  rw [hs] at hr'
  rw [List.head?_cons,Option.mem_some_iff] at hr'
  subst hr'
  have ha:=alt_runs (s.drop n)
  rw [hs] at ha
  obtain ⟨b',hub,_,_⟩:=ha
  have hne:=hub.1
  obtain ⟨c,t,rfl⟩:=List.exists_cons_of_ne_nil hne
  have hc : s[n]? = some c:=by
   have h1:=runs_flat (s.drop n)
   rw [hs] at h1
   have h2 : (s.drop n)[0]? = some c:=by rw [← h1]; rfl
   rw [List.getElem?_drop] at h2
   simpa using h2
  have h3:=hub.2 c (by simp)
  have h4:=hd c hc
  rw [h3] at h4
  have : b' = !b:=by cases b <;> cases b' <;> simp_all
  rw [← this]; exact hub
theorem piecesP_head {s : ByteArray} {n : Nat} {b : Bool} (hn : 0 < n) (hl : n ≤ s.size) (hu : ∀ c ∈ s.data.toList.take n,inU c = b) (hd : ∀ c,s.data.toList[n]? = some c → inU c ≠ b) : piecesP s = (s.extract 0 n,b) :: piecesP (s.extract n s.size):=by
 unfold piecesP
 have hl' : n ≤ s.data.toList.length:=by rw [dlen]; exact hl
 rw [runs_head hn hl' hu hd,List.map_cons]
 have e1 : (s.extract n s.size).data.toList = s.data.toList.drop n:=by rw [extract_data,List.take_of_length_le (by rw [dlen]; exact Nat.le_refl _)]
 rw [e1]
 congr 1
 unfold pieceP
 congr 1
 ·exact data_inj (by rw [extract_data,List.drop_zero])
 ·cases hs : s.data.toList.take n with
  | nil => have:=congrArg List.length hs; rw [List.length_take,List.length_nil] at this; omega
  | cons c t => rw [List.head?_cons]; exact hu c (by rw [hs]; simp)
set_option maxRecDepth 100000 in
set_option maxHeartbeats 4000000 in
theorem pieces_gives (n : Nat) (hn : 1 ≤ n) (B : Nat) (s : ByteArray) (w : World) (hs : s.size ≤ 140737488355328) (bs : Boxed w B 9 (.string s)) :
  SeqG Fence.wide n Tryz.prog 161 #[.pointer (some ⟨B,0,none⟩)] (fun y : ByteArray × Bool => #[.string y.1,.bool y.2]) (fun W W' => W'.heap[B]? = W.heap[B]?) (fun r => r = B)
   (fun ys => ys = piecesP s) (fun pre => pre <+: piecesP s) (fun pre x => pre ++ [x] <+: piecesP s) w:=by
 intro l J Jx W hW hJ hJx hY h0
 replace bs : Boxed W B 9 (.string s):=(hW.block _ bs.lt).trans bs
 clear hW
 show CallsIn Fence.wide n Tryz.prog 161 #[.func (.yield l) #[] #[],.pointer (some ⟨B,0,none⟩)] W _
 refine callsIn_of_wp Tryz.func161 rfl trivial ?_ rfl
 simp only [Tryz.ntmps161,List.size_toArray,List.length_cons,List.length_nil,Nat.reduceAdd,Nat.reduceSub,Array.replicate_succ,Array.replicate_zero,List.push_toArray,List.append_toArray,List.nil_append,List.cons_append]
 gi_wp2
 gi_loopw [] (fun wr => ∃ (cur : ByteArray) (pre : List (ByteArray × Bool)),J pre wr ∧ Boxed wr B 9 (.string cur) ∧ cur.size ≤ 140737488355328 ∧ pre ++ piecesP cur = piecesP s)
  (fun wr => sizeAt B wr)
 case atStart => exact ⟨s,[],h0,bs,hs,rfl⟩
 case round =>
  clear bs h0 hs
  obtain ⟨cur,pre,hJ0,bs,hc,hpc⟩:=hrel
  have cs:=bs.cell
  have fs:=bs.frozen
  by_cases hz : cur.size = 0
  ·have hcur : cur = ⟨#[]⟩:=data_inj (by
    have h1 : cur.data.toList.length = 0:=by rw [dlen]; exact hz
    exact List.length_eq_zero_iff.mp h1)
   subst hcur
   have HPC:=Lib.hid hpc
   clear hpc
   gi_wp2
   go_end0
   exact ⟨⟨_,rfl⟩,.inl ⟨pre,by rw [← HPC.out,piecesP_nil,List.append_nil],hJ0⟩⟩
  ·have hne : (cur.toList != []) = true:=by
    rw [bne_iff_ne]
    intro e
    have:=size_toList cur
    rw [e] at this
    simp at this
    omega
   have hne2 : (cur.toList == []) = false:=by simpa using hne
   have hp0 : (0 : Int) < (cur.size : Int):=by omega
   have HPC:=Lib.hid hpc
   have hIn:=fun c W => lines_in.calls c (inB c) W (in_f c)
   clear hpc
   gi_wp2_with (refine ⟨trivial,?_⟩; gi_at_call 113; refine (callsIn_wide.2 (hIn _ _)).mono ?_; rintro e w1 ⟨rfl,m,rfl⟩)
   have hz0 : 0 < cur.size:=by omega
   have hb0 : inB ((cur[0]'hz0).toNat : Int) = inU (cur.data.toList[0]'(by rw [dlen]; exact hz0)):=by unfold inU; congr 2
   obtain ⟨b,hb⟩ : ∃ b,inU (cur.data.toList[0]'(by rw [dlen]; exact hz0)) = b:=⟨_,rfl⟩
   rw [hb] at hb0
   rw [hb0]
   have HB:=Lib.hid hb
   clear hb hb0
   have hJd : ∀ (U : World) (q : Nat),J pre U → J pre (U.drewN q):=fun U q h => hJ _ _ _ none h ⟨rfl,rfl,rfl,Nat.le_refl _,fun _ _ _ => rfl⟩ (fun r e => by cases e)
   gi_loopg [4] (cur.size - 1) (fun kx s4 w2 => ∃ k : Nat,s4 = .int .i64 k ∧ k + kx = cur.size ∧ 1 ≤ k ∧ J pre w2 ∧ Boxed w2 B 9 (.string cur) ∧ Hid (∀ j (hj : j < cur.data.toList.length),j < k → inU cur.data.toList[j] = b))
   case atStart =>
    refine ⟨1,rfl,by omega,Nat.le_refl _,hJd _ _ hJ0,bs,Lib.hid ?_⟩
    intro j hj hj1
    obtain rfl : j = 0:=by omega
    exact HB.out
   case round =>
    have hbs0:=bs
    clear hJ0 bs cs fs
    obtain ⟨k,rfl,hk,hk1,hJ0,bs,HU⟩:=hrel
    have cs:=bs.cell
    have fs:=bs.frozen
    have hes : (cur.extract k cur.size).size = cur.size - k:=by simp
    have hall : Hid (∀ c ∈ cur.data.toList.take k,inU c = b):=Lib.hid (by
     intro c hc'
     obtain ⟨j,hj,rfl⟩:=List.getElem_of_mem hc'
     rw [List.length_take] at hj
     rw [List.getElem_take]
     exact HU.out j (by omega) (by omega))
    by_cases hlt : k < cur.size
    ·have hkd : decide ((k : Int) < (cur.size : Int)) = true:=decide_eq_true (by omega)
     have hk0 : (0 : Int) ≤ (k : Int):=by omega
     have hki : (k : Int) < (cur.size : Int):=by omega
     have hwk : IntKind.i64.wrap ((k : Int) + 1) = ((k + 1 : Nat) : Int):=by rw [wrap_small _ (by omega) (by omega)]; omega
     have hbk : inB ((cur[k]'hlt).toNat : Int) = inU (cur.data.toList[k]'(by rw [dlen]; exact hlt)):=by unfold inU; congr 2
     obtain ⟨bk,hbk2⟩ : ∃ bk,inU (cur.data.toList[k]'(by rw [dlen]; exact hlt)) = bk:=⟨_,rfl⟩
     rw [hbk2] at hbk
     have HBK:=Lib.hid hbk2
     clear hbk2
     by_cases hbb : bk = b
     ·subst hbb
      have hbeq : (bk == bk) = true:=by simp
      gi_wp2_with (refine ⟨trivial,?_⟩; gi_at_call 113; refine (callsIn_wide.2 (hIn _ _)).mono ?_; rintro e w1 ⟨rfl,m2,rfl⟩)
      go_roundg (cur.size - (k + 1))
      case measure => omega
      case rel =>
       refine ⟨k + 1,by first | rfl | (rw [hwk]),by omega,by omega,hJd _ _ hJ0,bs,Lib.hid ?_⟩
       intro j hj hjk
       rcases Nat.lt_or_ge j k with h | h
       ·exact HU.out j hj h
       ·obtain rfl : j = k:=by omega
        exact HBK.out
     ·have hbeq : (bk == b) = false:=by rw [beq_eq_false_iff_ne]; exact hbb
      have hhead:=piecesP_head (s:=cur) (n:=k) (b:=b) (by omega) (by omega) hall.out (fun c hc2 => by
       rw [List.getElem?_eq_getElem (by rw [dlen]; exact hlt)] at hc2
       rw [← Option.some.inj hc2,HBK.out]; exact hbb)
      have hlen : pre ++ [(cur.extract 0 k,b)] <+: piecesP s:=by rw [← HPC.out,hhead]; exact ⟨_,List.append_assoc _ _ _⟩
      have hhead':=Lib.hid hhead
      clear hhead
      gi_wp2_with (refine ⟨trivial,?_⟩; gi_at_call 113; refine (callsIn_wide.2 (hIn _ _)).mono ?_; rintro e w1 ⟨rfl,m2,rfl⟩; obtain ⟨fn,tmps,assign,body,hy,hR⟩:=hY pre (cur.extract 0 k,b) (wr.drewN m2) (hJd _ _ hJ0) hlen)
      have hhead:=hhead'.out
      have bs' : Boxed (wr.drewN m2) B 9 (.string cur):=bs
      refine hR.mono ?_
      rintro e W3 (⟨rfl,hJ3,hk3⟩ | ⟨rfl,hJx3⟩)
      ·have bs3:=boxed_of bs' hk3
       have cs3:=bs3.cell
       have fs3:=bs3.frozen
       gi_wp2
       go_roundw
       case rel => exact ⟨cur.extract k cur.size,pre ++ [(cur.extract 0 k,b)],hJ _ _ _ _ hJ3 (grownBy_setCell' _ _ _) (fun r e => .inr (Option.some.inj e).symm),bs3.set _,by rw [hes]; omega,by rw [← HPC.out,hhead]; simp⟩
       case measure =>
        rw [sizeAt_of (bs3.set _),sizeAt_of hbs0]
        rw [hes]
        omega
      ·gi_wp2
       refine bodyPost_ret (results_none rfl _ _ _) rfl ?_
       exact ⟨⟨_,rfl⟩,.inr ⟨pre ++ [(cur.extract 0 k,b)],by rw [← HPC.out,hhead]; exact ⟨piecesP (cur.extract k cur.size),by simp⟩,hJx3⟩⟩
    ·have hke : k = cur.size:=by omega
     have hkd : decide ((k : Int) < (cur.size : Int)) = false:=decide_eq_false (by omega)
     have hhead:=piecesP_head (s:=cur) (n:=k) (b:=b) (by omega) (by omega) hall.out (fun c hc2 => by
      rw [List.getElem?_eq_none (by rw [dlen]; omega)] at hc2
      cases hc2)
     have hlen : pre ++ [(cur.extract 0 k,b)] <+: piecesP s:=by rw [← HPC.out,hhead]; exact ⟨_,List.append_assoc _ _ _⟩
     have hhead':=Lib.hid hhead
     clear hhead
     have hk0 : (0 : Int) ≤ (k : Int):=by omega
     have hki : (k : Int) ≤ (cur.size : Int):=by omega
     obtain ⟨fn,tmps,assign,body,hy,hR⟩:=hY pre (cur.extract 0 k,b) wr hJ0 hlen
     have HKE:=Lib.hid hke
     clear hke
     gi_wp2
     refine ⟨trivial,?_⟩
     gi_wp2
     have hhead:=hhead'.out
     have bs' : Boxed wr B 9 (.string cur):=bs
     refine hR.mono ?_
     rintro e W3 (⟨rfl,hJ3,hk3⟩ | ⟨rfl,hJx3⟩)
     ·have bs3:=boxed_of bs' hk3
      have cs3:=bs3.cell
      have fs3:=bs3.frozen
      gi_wp2
      go_roundw
      case rel => exact ⟨cur.extract k cur.size,pre ++ [(cur.extract 0 k,b)],hJ _ _ _ _ hJ3 (grownBy_setCell' _ _ _) (fun r e => .inr (Option.some.inj e).symm),bs3.set _,by rw [hes]; omega,by rw [← HPC.out,hhead]; simp⟩
      case measure =>
       rw [sizeAt_of (bs3.set _),sizeAt_of hbs0]
       rw [hes]
       omega
     ·gi_wp2
      refine bodyPost_ret (results_none rfl _ _ _) rfl ?_
      exact ⟨⟨_,rfl⟩,.inr ⟨pre ++ [(cur.extract 0 k,b)],by rw [← HPC.out,hhead]; exact ⟨piecesP (cur.extract k cur.size),by simp⟩,hJx3⟩⟩
theorem pieces_stops (n : Nat) (hn : 1 ≤ n) (B : Nat) (s : ByteArray) (w : World) (hs : s.size ≤ 140737488355328) (bs : Boxed w B 9 (.string s)) :
  SeqZ Fence.wide n Tryz.prog 161 #[.pointer (some ⟨B,0,none⟩)] (fun y : ByteArray × Bool => #[.string y.1,.bool y.2]) (fun W W' => W'.heap[B]? = W.heap[B]?) (fun r => r = B)
   (fun ys => ys = piecesP s) (fun pre => pre <+: piecesP s) (piecesP s).length w:=fun l J Jx W hW hJ hJx hY h0 =>
 pieces_gives n hn B s w hs bs l J Jx W hW hJ hJx (fun pre x W1 h hp => hY pre x W1 h (by have:=hp.length_le; simp at this; omega)) h0
attribute [local go_sem] Oper.semAt_some
theorem pieces_in (n : Nat) (s : ByteArray) (w : World) :
  CallsIn Fence.wide n Tryz.prog 138 #[.string s] w fun e w' => e = .returned (.func (.func 161) #[] #[.pointer (some ⟨w.heap.size,0,none⟩)]) ∧ w' = w.alloc (.cells #[.string s] 9):=by
 refine callsIn_of_wp Tryz.func138 rfl trivial ?_ rfl
 simp only [Tryz.ntmps138,List.size_toArray,List.length_cons,List.length_nil,Nat.reduceAdd,Nat.reduceSub,Array.replicate_succ,Array.replicate_zero,List.push_toArray,List.append_toArray,List.nil_append,List.cons_append]
 gi_wp2
 go_ret
 exact ⟨rfl,rfl⟩
theorem piecesP_len (s : ByteArray) : (piecesP s).length ≤ s.size:=by
 have key : ∀ l : List UInt8,(runs l).length ≤ l.length:=by
  intro l
  induction l with
  | nil => exact Nat.le_refl _
  | cons c l ih =>
   rw [runs_eq]
   split
   ·rename_i d r rest hr
    rw [hr] at ih
    simp only [List.length_cons] at ih ⊢
    split <;> simp only [List.length_cons] <;> omega
   ·simp
 unfold piecesP
 rw [List.length_map,← dlen]
 exact key _
theorem piecesP_fst (s : ByteArray) : (piecesP s).map (·.1) = piecesV s:=by
 unfold piecesP piecesV
 rw [List.map_map]
 rfl
set_option maxRecDepth 100000 in
set_option maxHeartbeats 4000000 in
theorem tokens_in (s : ByteArray) (w : World) (hs : s.size ≤ 1000000000) :
  CallsIn Fence.wide 6 Tryz.prog 103 #[.string s] w fun e w' => ∃ v,e = .returned v ∧ RowS w w' v (piecesV s) ∧ Below w.heap.size w w':=by
 refine callsIn_of_wp_marks Tryz.func103 rfl trivial ?_ rfl
 simp only [Tryz.ntmps103,List.size_toArray,List.length_cons,List.length_nil,Nat.reduceAdd,Nat.reduceSub,Array.replicate_succ,Array.replicate_zero,List.push_toArray,List.append_toArray,List.nil_append,List.cons_append]
 gi_wp2_with (refine ⟨trivial,?_⟩; gi_at_call 138; refine (pieces_in _ _ _).mono ?_; rintro e w1 ⟨rfl,rfl⟩)
 have bR:=(Boxed.new w 23 (.slice none 0 0)).alloc (.cells #[.string s] 9)
 have bs:=Boxed.new (w.alloc (.cells #[.slice none 0 0] 23)) 9 (.string s)
 simp only [World.size_alloc] at bs
 have hB0 : Below w.heap.size w ((w.alloc (.cells #[.slice none 0 0] 23)).alloc (.cells #[.string s] 9)):=((Below.refl _ w).alloc (Nat.le_refl _) _).alloc (by simp) _
 have hsz : ((w.alloc (.cells #[.slice none 0 0] 23)).alloc (.cells #[.string s] 9)).heap.size = w.heap.size + 2:=by simp
 obtain ⟨W0,hW0⟩ : ∃ W0,((w.alloc (.cells #[.slice none 0 0] 23)).alloc (.cells #[.string s] 9)) = W0:=⟨_,rfl⟩
 rw [hW0] at bR bs hB0 hsz ⊢
 clear hW0
 have hpl:=piecesP_len s
 obtain ⟨i0,hi0,hz0,hz1,hz2⟩:=info_parts infoS
 refine wpIn_rangeFunc_boxes (F:=Fence.wide) (α:=ByteArray × Bool) (Z:=fun r => r = w.heap.size + 1) rfl (by omega) (gf:=161)
  (lb:=#[.pointer (some ⟨w.heap.size + 1,0,none⟩)]) rfl trivial (enters_of Tryz.func161 (by kernel_rfl) rfl)
  (pieces_stops 5 (by omega) (w.heap.size + 1) s W0 (by omega) bs) (fun r e => by omega) ?kt ?kb (Below.refl _ _) (fun _ => rfl)
  (fun pre W => ∃ v,Boxed W w.heap.size 23 v ∧ OwnRow Rs 9 1 W (w.heap.size + 2) v (pre.map (·.1)) ∧ Below w.heap.size w W ∧ w.heap.size + 2 ≤ W.heap.size)
  (fun _ pre W => False)
  ?own ?ownx ⟨_,bR,OwnRow.none_ _ _ _ _ _,hB0,by omega⟩
  (fun x => { tmps:=#[.string s,undef,.slice none 0 0,.pointer (some ⟨w.heap.size,0,none⟩),.string x.1,.string s,.func (.func 161) #[] #[.pointer (some ⟨w.heap.size + 1,0,none⟩)],.string x.1,.bool x.2,undef,undef,undef,undef,undef],defers:=[] })
  ?assign ?body ?done ?stop
 case kt => exact fun h k => k.trans h
 case kb => exact fun W l o o' hl _ _ _ => World.putObj_heap_other (by omega)
 case own =>
  rintro pre X Y row ⟨v,h1,h2,h4,h6⟩ hg hr
  have ne : ∀ B t v,Boxed X B t v → B ≠ w.heap.size + 1 → some B ≠ row:=fun B t v hb hB e => by
   rcases hr B e.symm with ⟨_,o,ho,hc⟩ | h5
   ·rw [show X.heap[B]? = _ from hb] at ho
    cases ho
    cases hc
   ·exact hB h5
  refine ⟨v,h1.kept hg (ne _ _ _ h1 (by omega)),OwnRow.other h2 hg ?_,Below.grown h4 hg (by have:=h1.lt; omega) (fun r e => by rcases hr r e with ⟨h5,_⟩ | h5 <;> omega),Nat.le_trans h6 hg.size⟩
  obtain ⟨inner,⟨_,ho⟩,_⟩:=h2
  rcases ho with ⟨rfl,_⟩ | ⟨g,cap,cur,rfl,hg0,hh,_⟩
  ·exact .inl rfl
  ·right
   intro e
   rcases hr g e.symm with ⟨_,o,ho,hc⟩ | h5
   ·rw [hh] at ho
    cases ho
    cases hc
   ·omega
 case ownx => exact fun _ pre X Y row h _ _ => h.elim
 case assign =>
  intro l x W K hK
  gi_wp2
  exact hK
 case body =>
  rintro l pre x W ⟨v,h1,h2,h4,h6⟩ hlt
  obtain ⟨inner,hown,hrp⟩:=h2
  have c1:=h1.cell
  have f1:=h1.frozen
  have hlm : (pre.map (·.1)).length = pre.length:=List.length_map ..
  rw [hlm] at hown
  have hn1 : pre.length + 1 ≤ maxLen:=by unfold maxLen; omega
  have hn2 : (pre.length + 1) * 16 ≤ 140737488355328:=Nat.le_trans (Nat.mul_le_mul_right 16 (show pre.length + 1 ≤ 1000000001 by omega)) (by decide)
  have HOWN:=Lib.hid hown
  have HRP:=Lib.hid hrp
  have HN1:=Lib.hid hn1
  have HN2:=Lib.hid hn2
  have HI0:=Lib.hid hi0
  have HZ0:=Lib.hid hz0
  have HZ1:=Lib.hid hz1
  have HZ2:=Lib.hid hz2
  clear hown hrp hn1 hn2 hi0 hz0 hz1 hz2
  have hA : Below W.heap.size W (W.alloc (.cells #[.string x.1] 9)):=(Below.refl _ _).alloc (Nat.le_refl _) _
  have hown2:=pw_own_below HOWN.out hA
  have bA:=h1.alloc (.cells #[.string x.1] 9)
  have hnews : ∀ j u,[Value.string x.1][j]? = some u → (W.alloc (.cells #[.string x.1] 9)).cell? ((⟨W.heap.size,0,none⟩ : Addr).add j) = some u:=by
   intro j u hu
   have hj : j = 0:=by
    have:=(List.getElem?_eq_some_iff.1 hu).1
    simp at this
    exact this
   subst hj
   simp only [List.getElem?_cons_zero,Option.some.injEq] at hu
   subst hu
   exact (Boxed.new W 9 (.string x.1)).cell
  have HNEWS:=Lib.hid hnews
  have HOWN2:=Lib.hid hown2
  have hne0 : some w.heap.size ≠ v.ownBlock:=fun e => by have:=own_base HOWN.out _ e.symm; omega
  clear hown2 hnews
  gi_wp2_with (gi_at_builtin; refine wpListIn_append_own_at _ rfl _ _ 23 rfl (w.heap.size + 2) 9 i0 _ 1 16 Tryz.underlying23 HI0.out HZ0.out HZ1.out HZ2.out rfl (by omega) _ _ _ rfl HOWN2.out ⟨W.heap.size,0,none⟩ 1 1 [.string x.1] rfl rfl HNEWS.out (by simp [Value.oneCell']) HN1.out HN2.out (by simp only [World.size_alloc]; omega) ?_; intro v' w2 hown3 hg hnil hat; obtain ⟨A,cc,rfl⟩:=own_slice hown3; have b2:=bA.kept hg hne0; have c2:=b2.cell; have f2:=b2.frozen)
  have hszg:=hg.size
  rw [World.size_alloc] at hszg
  have hrow : OwnRow Rs 9 1 w2 (w.heap.size + 2) (.slice A (pre.length + 1) cc) ((pre ++ [x]).map (·.1)):=by
   rw [List.map_append]
   refine ⟨_,?_,Reps.snoc (c:=[.string x.1]) (p:=x.1) HRP.out rfl rfl⟩
   rw [List.length_append,hlm]
   exact hown3
  have hke : KeepsOthers W w2:=(KeepsOthers.alloc _ _).trans (KeepsOthers.of_grownBy hg fun j o hj ho => by
   obtain ⟨_,⟨rfl,_⟩ | ⟨g,cap,cur,rfl,hg0,hh,_⟩⟩:=HOWN.out
   ·cases hj
   ·cases hj
    rw [Below.heap_alloc _ _ _ (Array.getElem?_eq_some_iff.1 hh).1,hh] at ho
    cases ho
    rfl)
  refine ⟨(hke.trans (KeepsOthers.setCell _ _ _)).from _,?_,_,b2.set _,OwnRow.set_ hrow b2 (by decide) _ _,?_,?_⟩
  ·refine ((grownBy_setCell' w2 w.heap.size _).block (w.heap.size + 1) (by omega) (by simp)).trans ((hg.block (w.heap.size + 1) (by simp only [World.size_alloc]; omega) (fun e => by have:=own_base HOWN.out _ e.symm; omega)).trans (hA.block _ (by omega)))
  ·refine Below.setCell (p:=⟨w.heap.size,0,none⟩) ?_ (Nat.le_refl _) _
   refine Below.grown (h4.trans (hA.mono h4.size)) hg (by simp only [World.size_alloc]; omega) (fun r e => ?_)
   have:=own_base HOWN.out r e
   show w.heap.size ≤ r
   omega
  ·rw [World.size_setCell]
   omega
 case done =>
  rintro D xs W hD hS ⟨v,h1,h2,h4,h6⟩ hdf
  have hr : xs.map (·.1) = piecesV s:=by rw [← piecesP_fst]; exact congrArg _ hS
  rw [hr] at h2
  obtain ⟨A,cc,rfl,hcc⟩:=OwnRow.slice_ h2
  obtain ⟨N,hN⟩ : ∃ N,(piecesV s).length = N:=⟨_,rfl⟩
  rw [hN] at h1 h2
  have c1:=h1.cell
  clear hS hr
  gi_wp2
  refine ⟨by simp,.inl ⟨_,_,rfl,run_takeDeferred hdf,?_⟩⟩
  refine ⟨.slice A N cc,by simp [results,Tryz.results103,go_sem],⟨.slice A N cc,rfl,?_,?_⟩⟩
  ·obtain ⟨inner,hown,hrp⟩:=h2
   exact OwnRow.lower ⟨inner,ownsRow_putObj hown _ hdf rfl,hrp⟩ (by omega)
  ·exact Below.trans h4 (belowK_b (w:=w) (Nat.le_refl _) _ D _ _ (by omega) hdf rfl rfl)
 case stop => exact fun D pre W _ _ h _ => h.elim
theorem tokens_at (s : ByteArray) (w : World) (hs : s.size ≤ 1000000000) :
  Calls Tryz.prog 103 #[.string s] w fun e w' => ∃ v,e = .returned v ∧ RowS w w' v (piecesV s) ∧ Below w.heap.size w w':=callsIn_wide.1 (tokens_in s w hs)
end Go.Proofs.YthhohbidjhcjeaaGreatDoor.H
namespace Go.Proofs.YthhohbidjhcjeaaGreatDoor.H
open Go.RowKit Go.Shelf Go.Proofs.YthhohbidjhcjeaaGreatDoorW.PrintWords Go.Proofs.YthhohbidjhcjeaaGreatDoorW.PrintLast Go.Proofs.YthhohbidjhcjeaaGreatDoorW.PrintMore
open Go.Proofs.YthhohbidjhcjeaaGreatDoor.Q Go.Proofs.YthhohbidjhcjeaaGreatDoor.Pl
set_option linter.unusedVariables false
set_option linter.unusedSimpArgs false
set_option maxHeartbeats 1000000 in
set_option maxRecDepth 100000 in
theorem copyCheck_used (b : Nat) (w : World) (h0 : w.cell? ⟨b,0,none⟩ = some (.pointer (some ⟨b,0,none⟩))) :
  Calls Tryz.prog 162 #[.pointer (some ⟨b,0,none⟩)] w fun e w' => e = .returned (.tuple #[]) ∧ w' = w:=by
 obtain ⟨j,hj,_⟩:=Option.map_eq_some_iff.1 Tryz.Builder_Extra_169.sizeBuilder
 go_enter Tryz.func162,Tryz.ntmps162
 go_wp2
 rw [Lib.run_neq_ptr_same w _ Tryz.underlying147 hj]
 go_wp2
 go_end0
 exact ⟨rfl,rfl⟩
set_option maxHeartbeats 1000000 in
set_option maxRecDepth 100000 in
theorem copyCheck_fresh (b : Nat) (w : World) (h0 : w.cell? ⟨b,0,none⟩ = some (.pointer none)) (hsh : w.shape? b = some (150,2)) (hfz : w.frozen? ⟨b,0,none⟩ = false) :
  Calls Tryz.prog 162 #[.pointer (some ⟨b,0,none⟩)] w fun e w' => e = .returned (.tuple #[]) ∧ w' = w.setCell ⟨b,0,none⟩ (.pointer (some ⟨b,0,none⟩)):=by
 obtain ⟨j,hj,hjs⟩:=Option.map_eq_some_iff.1 Tryz.Builder_Extra_169.sizeBuilder
 go_enter Tryz.func162,Tryz.ntmps162
 go_wp2
 rw [Lib.run_to_unsafe w ⟨b,0,none⟩ Tryz.underlying147 Tryz.underlying199 hj (by rw [hjs]; decide) hsh (Nat.zero_lt_succ 1)]
 simp only [Result.andThen]
 rw [Oper.upon_value]
 go_wp2
 rw [run_callFunc_extern Tryz.func183 (by kernel_rfl) (by kernel_rfl) (by kernel_rfl) (e:=Extern.AbiNoEscape.same) (by kernel_rfl)]
 rw [Lib.run_noEscape]
 simp only [Result.andThen]
 rw [Oper.upon_value]
 go_wp2
 rw [Lib.run_from_unsafe w ⟨b,0,none⟩ Tryz.underlying199 Tryz.underlying147 hj hsh Tryz.Builder_Extra_169.liesBuilder]
 simp only [Result.andThen]
 rw [Oper.upon_value]
 go_wp2
 go_end0
 exact ⟨rfl,rfl⟩
def Bld (B b : Nat) (bs : List Value) (W : World) : Prop :=
 ∃ p v,(p = .pointer none ∨ p = .pointer (some ⟨b,0,none⟩)) ∧ W.heap[b]? = some (.cells #[p,v] 150 (0,0)) ∧ W.ownsRow B 5 1 v bs.length bs ∧ (bs = [] → v = .slice none 0 0)
theorem Bld.is {B b : Nat} {bs : List Value} {W : World} (h : Bld B b bs W) (N : Nat) (h1 : N ≤ B) (h2 : N ≤ b) : Lib.IsBuilder 150 5 N b bs W:=by
 obtain ⟨p,v,hp,hb,ho,hnil⟩:=h
 rcases hp with rfl | rfl
 ·exact .inl ⟨h2,v,hb,own_weaken ho h1,fun e => own_ne ho hb (by decide) e.symm⟩
 ·exact .inr ⟨h2,v,hb,own_weaken ho h1,fun e => own_ne ho hb (by decide) e.symm⟩
theorem Bld.kept {B b : Nat} {bs : List Value} {W W' : World} {row : Option Nat} (h : Bld B b bs W) (hg : W.grownBy W' row) (hr : ∀ r,row = some r → r ≠ b ∧ (r < B ∨ ∀ cs fz,W.heap[r]? ≠ some (.cells cs 5 fz))) : Bld B b bs W':=by
 obtain ⟨p,v,hp,hb,ho,hnil⟩:=h
 refine ⟨p,v,hp,(hg.block b (Array.getElem?_eq_some_iff.1 hb).1 (fun e => (hr b e.symm).1 rfl)).trans hb,own_other ho hg ?_,hnil⟩
 obtain ⟨_,⟨hv,_⟩ | ⟨g,cap',cur,hv,hg0,hh,_⟩⟩:=ho
 ·left; rw [hv]; rfl
 ·right
  intro e
  rw [hv] at e
  rcases (hr g e.symm).2 with h1 | h1
  ·omega
  ·exact h1 _ _ hh
theorem copyCheck_bld {B b : Nat} {bs : List Value} {w : World} (h : Bld B b bs w) :
  Calls Tryz.prog 162 #[.pointer (some ⟨b,0,none⟩)] w fun e w' => e = .returned (.tuple #[]) ∧ (∃ v,w'.heap[b]? = some (.cells #[.pointer (some ⟨b,0,none⟩),v] 150 (0,0)) ∧ w'.ownsRow B 5 1 v bs.length bs ∧ (bs = [] → v = .slice none 0 0)) ∧ w.grownBy w' (some b):=by
 obtain ⟨p,v,hp,hb,ho,hnil⟩:=h
 have hne:=own_ne ho hb (by decide)
 rcases hp with rfl | rfl
 ·refine (copyCheck_fresh b w (by rw [Lib.cell_of_heap hb]; rfl) (by simp [World.shape?,hb]) (Lib.frozen_of_heap hb 0)).mono ?_
  rintro e w' ⟨rfl,rfl⟩
  refine ⟨rfl,⟨v,?_,own_setCell ho hne _,hnil⟩,grownBy_setCell' _ _ _⟩
  simp [World.setCell,Array.getElem?_modify,hb]
 ·refine (copyCheck_used b w (by rw [Lib.cell_of_heap hb]; rfl)).mono ?_
  rintro e w' ⟨rfl,rfl⟩
  exact ⟨rfl,⟨v,hb,ho,hnil⟩,World.grownBy.refl _ _⟩
set_option maxHeartbeats 2000000 in
set_option maxRecDepth 100000 in
theorem writeString_at (B b : Nat) (bs : List Value) (s : ByteArray) (w : World) (h : Bld B b bs w) (hlen : bs.length + s.size ≤ 140737488355328) (hBw : B ≤ w.heap.size) :
  Calls Tryz.prog 139 #[.pointer (some ⟨b,0,none⟩),.string s] w fun e w' => e = .returned (.tuple #[.int .i64 s.size,.nilIface]) ∧ Bld B b (bs ++ Lib.strCells s) w' ∧
   (∀ N,N ≤ B → N ≤ b → N ≤ w.heap.size → Below N w w') ∧ (∀ k o,w.heap[k]? = some o → k ≠ b → (k < B ∨ ∀ cs fz,o ≠ .cells cs 5 fz) → w'.heap[k]? = some o):=by
 obtain ⟨i0,hi,hz0,hz1,hz2⟩:=info_parts Tryz.Builder_Extra_169.infoByte
 go_enter Tryz.func139,Tryz.ntmps139
 replace hi : Tryz.prog.info? 5 = some i0:=hi
 have hmx : bs.length + s.size ≤ maxLen:=by unfold maxLen; omega
 replace h:=Lib.hid h
 replace hi:=Lib.hid hi
 replace hz0:=Lib.hid hz0
 replace hz1:=Lib.hid hz1
 replace hz2:=Lib.hid hz2
 replace hmx:=Lib.hid hmx
 replace hlen:=Lib.hid hlen
 go_wp2_with (first
  | (go_at_call 162; refine (copyCheck_bld h.out).mono ?_; rintro e w1 ⟨rfl,⟨v,hbk,hown,hnil⟩,hb1⟩; replace hnil:=Lib.hid hnil; obtain ⟨ao0,cap0,rfl⟩:=own_slice hown; have hne:=own_ne hown hbk (by decide); replace hbk:=Lib.hid hbk; replace hown:=Lib.hid hown; replace hne:=Lib.hid hne; have c0 : w1.cell? ⟨b,0,none⟩ = some (.pointer (some ⟨b,0,none⟩)):=(by rw [Lib.cell_of_heap hbk.out]; rfl); have c1 : w1.cell? ⟨b,1,none⟩ = some (.slice ao0 bs.length cap0):=(by rw [Lib.cell_of_heap hbk.out]; rfl))
  | (at_builtin; refine Lib.wpList_append_own_string _ rfl _ _ 148 9 rfl B 5 i0 Tryz.underlying148 Tryz.underlying9 hi.out hz0.out hz1.out hz2.out _ _ _ rfl hown.out s rfl hmx.out hlen.out (Nat.le_trans hBw hb1.size) ?_; intro v' w2 hown' hgrow hiff; replace hiff:=Lib.hid hiff; obtain ⟨ao,cap,rfl⟩:=own_slice hown'; have hb2 : w2.heap[b]? = some (.cells #[.pointer (some ⟨b,0,none⟩),.slice ao0 bs.length cap0] 150 (0,0)):=((hgrow.block b (Array.getElem?_eq_some_iff.1 hbk.out).1 hne.out).trans hbk.out); replace hb2:=Lib.hid hb2; have d0 : w2.cell? ⟨b,0,none⟩ = some (.pointer (some ⟨b,0,none⟩)):=(by rw [Lib.cell_of_heap hb2.out]; rfl); have d1 : w2.cell? ⟨b,1,none⟩ = some (.slice ao0 bs.length cap0):=(by rw [Lib.cell_of_heap hb2.out]; rfl); have f1 : w2.frozen? ⟨b,1,none⟩ = false:=Lib.frozen_of_heap hb2.out 1))
 go_ret2
 refine ⟨rfl,?_,?_,?_⟩
 ·refine ⟨_,.slice ao (bs.length + s.size) cap,.inr rfl,?_,?_,?_⟩
  ·simp [World.setCell,Array.getElem?_modify,hb2.out]
  ·rw [List.length_append,Lib.strCells_length]
   exact own_setCell hown' (own_ne hown' hb2.out (by decide)) _
  ·intro he
   rw [List.append_eq_nil_iff] at he
   exact hiff.out.2 ⟨hnil.out he.1,by have:=he.2; rw [← List.length_eq_zero_iff,Lib.strCells_length] at this; exact this⟩
 ·intro N h1 h2 h3
  refine Below.setCell (p:=⟨b,1,none⟩) ?_ h2 _
  refine Below.grown (Below.grown (Below.refl _ w) hb1 h3 (fun k hk => by cases hk; exact h2)) hgrow (Nat.le_trans h3 hb1.size) (fun k hk => Nat.le_trans h1 (own_base hown.out k hk))
 ·intro k o hk hne' hno
  have hl:=(Array.getElem?_eq_some_iff.1 hk).1
  have hk1 : w1.heap[k]? = some o:=(hb1.block k hl (by simp; exact hne')).trans hk
  have hk2 : w2.heap[k]? = some o:=(hgrow.block k (Array.getElem?_eq_some_iff.1 hk1).1 (fun e => by
   have h9:=own_base hown.out k e.symm
   rcases hno with hno | hno
   ·omega
   obtain ⟨_,⟨hv,_⟩ | ⟨g,cap',cur,hv,hg0,hh,_⟩⟩:=hown.out
   ·rw [hv] at e; cases e
   ·rw [hv] at e
    cases e
    rw [hk1] at hh
    exact hno _ _ (Option.some.inj hh))).trans hk1
  exact (Below.heap_setCell _ _ _ _ (fun e => hne' (by simpa using e))).trans hk2
set_option maxHeartbeats 2000000 in
set_option maxRecDepth 100000 in
theorem string_some (b : Nat) (l : List UInt8) (p : Value) (w : World) (g cap : Nat) (cur : Array Value) (hl0 : l ≠ []) (hbk : w.heap[b]? = some (.cells #[p,.slice (some ⟨g,0,none⟩) l.length cap] 150 (0,0)))
  (hg : w.heap[g]? = some (.cells cur 5 (0,0))) (hn1 : 0 < l.length) (hn2 : l.length ≤ cap) (hn3 : cap ≤ maxLen) (hn4 : l.length ≤ cur.size) (hcells : ∀ j x,l[j]? = some x → w.drew.cell? ((⟨g,0,none⟩ : Addr).add j) = some (.int .u8 x.toNat)) :
  Calls Tryz.prog 140 #[.pointer (some ⟨b,0,none⟩)] w fun e w' => e = .returned (.string ⟨l.toArray⟩) ∧ w' = w.drew.freeze ⟨g,0,none⟩ l.length:=by
 have c1 : w.drew.cell? ⟨b,1,none⟩ = some (.slice (some ⟨g,0,none⟩) l.length cap):=by
  have : w.drew.heap[b]? = some (.cells #[p,.slice (some ⟨g,0,none⟩) l.length cap] 150 (0,0)):=hbk
  rw [Lib.cell_of_heap this]; rfl
 have hSD : (Builtin.unsafeSliceData_ #[148] 176 #[.slice (some ⟨g,0,none⟩) l.length cap]).run Tryz.prog w.drew = .ok (.pointer (some ⟨g,0,none⟩)) w.drew :=
  Lib.run_unsafeSliceData_row _ _ _ _ _ _ (by omega)
 have hUS : (Builtin.unsafeString_ #[176,3] 9 #[.pointer (some ⟨g,0,none⟩),.int .i64 l.length]).run Tryz.prog w.drew = .ok (.string ⟨l.toArray⟩) (w.drew.freeze ⟨g,0,none⟩ l.length):=by
  refine Lib.run_unsafeString_row w.drew 176 3 9 5 Tryz.underlying176 Tryz.Builder_Extra_169.cellsByte g cur.size (by have hg' : w.drew.heap[g]? = some (.cells cur 5 (0,0)):=hg; simp [World.shape?,hg']) l hl0 hn4 (by unfold maxLen at hn3; omega) ?_
  exact hcells
 clear hcells hn1 hn2 hn3 hn4 hg hbk
 go_enter Tryz.func140,Tryz.ntmps140
 go_wp2
 go_region
 all_goals (go_wp2; go_ret; exact ⟨rfl,rfl⟩)
set_option maxHeartbeats 2000000 in
set_option maxRecDepth 100000 in
theorem string_nil (b : Nat) (p : Value) (w : World) (hbk : w.heap[b]? = some (.cells #[p,.slice none 0 0] 150 (0,0))) :
  Calls Tryz.prog 140 #[.pointer (some ⟨b,0,none⟩)] w fun e w' => e = .returned (.string ⟨#[]⟩) ∧ w' = w.drew:=by
 have hUS : ∀ W q,(Builtin.unsafeString_ #[176,3] 9 #[.pointer q,.int .i64 0]).run Tryz.prog W = .ok (.string .empty) W:=fun W q => Lib.run_unsafeString_none W _ _ _ q
 have c1 : w.drew.cell? ⟨b,1,none⟩ = some (.slice none 0 0):=by
  have : w.drew.heap[b]? = some (.cells #[p,.slice none 0 0] 150 (0,0)):=hbk
  rw [Lib.cell_of_heap this]; rfl
 have hSD : (Builtin.unsafeSliceData_ #[148] 176 #[.slice none 0 0]).run Tryz.prog w.drew = .ok (.pointer none) w.drew:=rfl
 go_enter Tryz.func140,Tryz.ntmps140
 go_wp2
 go_region
 all_goals (go_wp2; go_ret; exact ⟨rfl,rfl⟩)
theorem string_at (B b : Nat) (l : List UInt8) (w : World) (h : Bld B b (Lib.byteCells l) w) :
  Calls Tryz.prog 140 #[.pointer (some ⟨b,0,none⟩)] w fun e w' => e = .returned (.string ⟨l.toArray⟩) ∧ (∀ N,N ≤ B → Below N w w') ∧ (∀ (k : Nat) (o : Obj),w.heap[k]? = some o → o.isCells = false → w'.heap[k]? = some o):=by
 obtain ⟨p,v,hp,hb,ho,hnil⟩:=h
 rw [Lib.byteCells_length] at ho
 by_cases hl : l = []
 ·subst hl
  rw [hnil rfl] at hb
  refine (string_nil b p w hb).mono ?_
  rintro e w' ⟨rfl,rfl⟩
  exact ⟨rfl,fun N _ => Below.drew (Below.refl N w),fun k o hk _ => hk⟩
 ·have hpos : 0 < l.length:=by rcases l with _ | _ <;> simp at hl ⊢
  obtain ⟨hln,⟨hv,h0⟩ | ⟨g,cap,cur,hv,hBg,hg,hn2,hn3,hcs,htk⟩⟩:=id ho
  ·omega
  ·subst hv
   have hcells : ∀ j x,l[j]? = some x → w.drew.cell? ((⟨g,0,none⟩ : Addr).add j) = some (.int .u8 x.toNat):=fun j x hx => ho.cells (g:=g) rfl j (.int .u8 x.toNat) (by simp [Lib.byteCells,hx])
   refine (string_some b l p w g cap cur hl hb hg hpos hn2 hn3 (by omega) hcells).mono ?_
   rintro e w' ⟨rfl,rfl⟩
   refine ⟨rfl,fun N hN => Lib.below_freeze (Below.drew (Below.refl N w)) (p:=⟨g,0,none⟩) (Nat.le_trans hN hBg) _,fun k o hk hc => ?_⟩
   have hne : k ≠ g:=by
    rintro rfl
    rw [hg] at hk
    cases hk
    cases hc
   unfold World.freeze
   split
   ·exact hk
   ·simp only [Array.getElem?_modify]
    rw [if_neg (fun e => hne e.symm)]
    exact hk
open Go.Proofs.YthhohbidjhcjeaaGreatDoor.Q Go.Proofs.YthhohbidjhcjeaaGreatDoor.Pl Go.Proofs.YthhohbidjhcjeaaGreatDoor.RB
attribute [local go_sem] Oper.semAt_some
def swapP (fr to_ : ByteArray) (x : ByteArray × Bool) : ByteArray:=if x.2 = true ∧ x.1 = fr then to_ else x.1
def outP (fr to_ : ByteArray) (l : List (ByteArray × Bool)) : List UInt8:=l.flatMap (fun x => (swapP fr to_ x).data.toList)
theorem outP_snoc (fr to_ : ByteArray) (l : List (ByteArray × Bool)) (x : ByteArray × Bool) : outP fr to_ (l ++ [x]) = outP fr to_ l ++ (swapP fr to_ x).data.toList:=by simp [outP]
theorem outP_le (fr to_ : ByteArray) (l : List (ByteArray × Bool)) (k : List (ByteArray × Bool)) (h : l <+: k) : (outP fr to_ l).length ≤ (outP fr to_ k).length:=by
 obtain ⟨t,rfl⟩:=h
 simp [outP]
theorem outP_repl (s fr to_ : ByteArray) (hf : tokenB fr = true) : (⟨(outP fr to_ (piecesP s)).toArray⟩ : ByteArray) = replV s fr to_:=by
 have key : ∀ l : List (List UInt8),(l.map pieceP).flatMap (fun x => (swapP fr to_ x).data.toList) = l.flatMap (fun r => if r = fr.data.toList then to_.data.toList else r):=by
  intro l
  induction l with
  | nil => rfl
  | cons r l ih =>
   rw [List.map_cons,List.flatMap_cons,List.flatMap_cons,ih]
   congr 1
   unfold swapP
   by_cases hr : r = fr.data.toList
   ·have hp : pieceP r = (fr,true):=by
     obtain ⟨hne,hall⟩:=token_uni hf
     rw [← hr] at hne hall
     unfold pieceP
     rcases r with _ | ⟨c,r⟩
     ·exact absurd rfl hne
     ·refine Prod.ext ?_ (hall c (by simp))
      rw [hr]
    rw [hp,if_pos ⟨rfl,rfl⟩,if_pos hr]
   ·rw [if_neg hr,if_neg]
    ·rfl
    ·rintro ⟨_,h⟩
     apply hr
     rw [← h]
     rfl
 unfold outP piecesP replV
 rw [key]
theorem outP_bound (fr to_ : ByteArray) (l : List (ByteArray × Bool)) : (outP fr to_ l).length ≤ (l.map (fun x => x.1.size)).sum + l.length * to_.size:=by
 induction l with
 | nil => simp [outP]
 | cons x l ih =>
  have e : outP fr to_ (x :: l) = (swapP fr to_ x).data.toList ++ outP fr to_ l:=by simp [outP]
  rw [e,List.length_append,dlen,List.map_cons,List.sum_cons,List.length_cons,Nat.add_mul]
  have : (swapP fr to_ x).size ≤ x.1.size + to_.size:=by unfold swapP; split <;> omega
  omega
theorem piecesP_sum (s : ByteArray) : ((piecesP s).map (fun x => x.1.size)).sum = s.size:=by
 have key : ∀ l : List (List UInt8),((l.map pieceP).map (fun x => x.1.size)).sum = l.flatten.length:=by
  intro l
  induction l with
  | nil => rfl
  | cons r l ih =>
   rw [List.map_cons,List.map_cons,List.sum_cons,ih,List.flatten_cons,List.length_append]
   congr 1
 unfold piecesP
 rw [key,runs_flat,dlen]
set_option maxRecDepth 100000 in
set_option maxHeartbeats 4000000 in
theorem replace_in (s fr to_ : ByteArray) (w : World) (hs : s.size ≤ 140737488355328) (hlen : (outP fr to_ (piecesP s)).length ≤ 140737488355328) :
  CallsIn Fence.wide 6 Tryz.prog 104 #[.string s,.string fr,.string to_] w fun e w' => e = .returned (.string ⟨(outP fr to_ (piecesP s)).toArray⟩) ∧ Below w.heap.size w w':=by
 refine callsIn_of_wp_marks Tryz.func104 rfl trivial ?_ rfl
 simp only [Tryz.ntmps104,List.size_toArray,List.length_cons,List.length_nil,Nat.reduceAdd,Nat.reduceSub,Array.replicate_succ,Array.replicate_zero,List.push_toArray,List.append_toArray,List.nil_append,List.cons_append]
 gi_wp2_with (refine ⟨trivial,?_⟩; gi_at_call 138; refine (pieces_in _ _ _).mono ?_; rintro e w1 ⟨rfl,rfl⟩)
 have b4:=((((Boxed.new w 9 (.string fr)).alloc (.cells #[.string to_] 9)).alloc (.cells #[.pointer none,.slice none 0 0] 150)).alloc (.cells #[.string s] 9))
 have b5:=(((Boxed.new (w.alloc (.cells #[.string fr] 9)) 9 (.string to_)).alloc (.cells #[.pointer none,.slice none 0 0] 150)).alloc (.cells #[.string s] 9))
 have bs:=Boxed.new (((w.alloc (.cells #[.string fr] 9)).alloc (.cells #[.string to_] 9)).alloc (.cells #[.pointer none,.slice none 0 0] 150)) 9 (.string s)
 have bB : ((((w.alloc (.cells #[.string fr] 9)).alloc (.cells #[.string to_] 9)).alloc (.cells #[.pointer none,.slice none 0 0] 150)).alloc (.cells #[.string s] 9)).heap[w.heap.size + 2]? = some (.cells #[.pointer none,.slice none 0 0] 150 (0,0)):=by
  have h:=blk_new ((w.alloc (.cells #[.string fr] 9)).alloc (.cells #[.string to_] 9)) (.cells #[.pointer none,.slice none 0 0] 150)
  simp only [World.size_alloc] at h
  exact blk_alloc h _
 simp only [World.size_alloc] at b5 bs
 have hB0 : Below w.heap.size w ((((w.alloc (.cells #[.string fr] 9)).alloc (.cells #[.string to_] 9)).alloc (.cells #[.pointer none,.slice none 0 0] 150)).alloc (.cells #[.string s] 9)) :=
  ((((Below.refl _ w).alloc (Nat.le_refl _) _).alloc (by simp) _).alloc (by simp; omega) _).alloc (by simp; omega) _
 have hsz : ((((w.alloc (.cells #[.string fr] 9)).alloc (.cells #[.string to_] 9)).alloc (.cells #[.pointer none,.slice none 0 0] 150)).alloc (.cells #[.string s] 9)).heap.size = w.heap.size + 4:=by simp
 obtain ⟨W0,hW0⟩ : ∃ W0,((((w.alloc (.cells #[.string fr] 9)).alloc (.cells #[.string to_] 9)).alloc (.cells #[.pointer none,.slice none 0 0] 150)).alloc (.cells #[.string s] 9)) = W0:=⟨_,rfl⟩
 rw [hW0] at b4 b5 bs bB hB0 hsz ⊢
 clear hW0
 have hb0 : Bld (w.heap.size + 4) (w.heap.size + 2) (Lib.byteCells (outP fr to_ [])) W0:=⟨_,_,.inl rfl,bB,own_nil _ _ _ _,fun _ => rfl⟩
 refine wpIn_rangeFunc_given (F:=Fence.wide) (α:=ByteArray × Bool) (Z:=fun r => r = w.heap.size + 1 + 1 + 1) rfl (by omega) (gf:=161)
  (lb:=#[.pointer (some ⟨w.heap.size + 1 + 1 + 1,0,none⟩)]) rfl trivial (enters_of Tryz.func161 (by kernel_rfl) rfl)
  (pieces_gives 5 (by omega) (w.heap.size + 1 + 1 + 1) s W0 (by omega) bs) (fun r e => by omega) ?kt ?kb (Below.refl _ _) (fun _ => rfl)
  (fun pre W => Boxed W w.heap.size 9 (.string fr) ∧ Boxed W (w.heap.size + 1) 9 (.string to_) ∧ Bld (w.heap.size + 4) (w.heap.size + 2) (Lib.byteCells (outP fr to_ pre)) W ∧ Below w.heap.size w W ∧ w.heap.size + 4 ≤ W.heap.size)
  (fun _ pre W => False)
  ?own ?ownx ⟨b4,b5,hb0,hB0,by omega⟩
  (fun x => { tmps:=#[.string s,.string fr,.string to_,undef,.pointer (some ⟨w.heap.size,0,none⟩),.pointer (some ⟨w.heap.size + 1,0,none⟩),.string ⟨#[]⟩,.pointer (some ⟨w.heap.size + 1 + 1,0,none⟩),.string x.1,.bool x.2,.string s,
   .func (.func 161) #[] #[.pointer (some ⟨w.heap.size + 1 + 1 + 1,0,none⟩)],.string x.1,.bool x.2,undef,undef,undef,undef,undef,undef,undef,undef,undef,undef],defers:=[] })
  ?assign ?body ?done ?stop
 case kt => exact fun h k => k.trans h
 case kb => exact fun W l o o' hl _ _ _ => World.putObj_heap_other (by omega)
 case own =>
  rintro pre X Y row ⟨h1,h2,h3,h4,h6⟩ hg hr
  have ne : ∀ B t v,Boxed X B t v → B ≠ w.heap.size + 1 + 1 + 1 → some B ≠ row:=fun B t v hb hB e => by
   rcases hr B e.symm with ⟨_,o,ho,hc⟩ | h5
   ·rw [show X.heap[B]? = _ from hb] at ho
    cases ho
    cases hc
   ·exact hB h5
  refine ⟨h1.kept hg (ne _ _ _ h1 (by omega)),h2.kept hg (ne _ _ _ h2 (by omega)),h3.kept hg fun r e => ?_,Below.grown h4 hg (by have:=h1.lt; omega) (fun r e => by rcases hr r e with ⟨h5,_⟩ | h5 <;> omega),Nat.le_trans h6 hg.size⟩
  rcases hr r e with ⟨h5,o,ho,hc⟩ | h5
  ·refine ⟨by omega,.inr fun cs fz hh => ?_⟩
   rw [ho] at hh
   cases hh
   cases hc
  ·exact ⟨by omega,.inl (by omega)⟩
 case ownx => exact fun _ pre X Y row h _ _ => h.elim
 case assign =>
  intro l x W K hK
  gi_wp2
  exact hK
 case body =>
  rintro l pre ⟨t,fl⟩ W ⟨h1,h2,h3,h4,h6⟩ hpre
  have c1:=h1.cell
  have c2:=h2.cell
  have hbnd : (outP fr to_ pre).length + (swapP fr to_ (t,fl)).size ≤ 140737488355328:=by
   have h:=outP_le fr to_ _ _ hpre
   rw [outP_snoc,List.length_append,dlen] at h
   omega
  have hend : ∀ (a : Act) (e : Ending) (w1 : World),e = .returned (.tuple #[.int .i64 (swapP fr to_ (t,fl)).size,.nilIface]) ∧ Bld (w.heap.size + 4) (w.heap.size + 1 + 1) (Lib.byteCells (outP fr to_ pre) ++ Lib.strCells (swapP fr to_ (t,fl))) w1 ∧
   (∀ N,N ≤ w.heap.size + 4 → N ≤ w.heap.size + 1 + 1 → N ≤ W.heap.size → Below N W w1) ∧ (∀ k o,W.heap[k]? = some o → k ≠ w.heap.size + 1 + 1 → (k < w.heap.size + 4 ∨ ∀ cs fz,o ≠ .cells cs 5 fz) → w1.heap[k]? = some o) →
   postZ W0.heap.size (fun W W' => W'.heap[w.heap.size + 1 + 1 + 1]? = W.heap[w.heap.size + 1 + 1 + 1]?) (fun pre W => Boxed W w.heap.size 9 (.string fr) ∧ Boxed W (w.heap.size + 1) 9 (.string to_) ∧ Bld (w.heap.size + 4) (w.heap.size + 2) (Lib.byteCells (outP fr to_ pre)) W ∧ Below w.heap.size w W ∧ w.heap.size + 4 ≤ W.heap.size)
    (fun _ pre W => False) (pre ++ [(t,fl)]) W .normal a w1:=by
   rintro a e w1 ⟨_,hb,hbl,hk⟩
   have hbw:=hbl w.heap.size (by omega) (by omega) (by omega)
   have hbl2:=hbl (w.heap.size + 1 + 1) (by omega) (by omega) (by omega)
   obtain ⟨o3,ho3⟩ : ∃ o,W.heap[w.heap.size + 1 + 1 + 1]? = some o:=⟨_,Array.getElem?_eq_getElem (by omega)⟩
   refine ⟨⟨hbw.size,fun k o hk1 hk2 hc => hk k o hk2 (by omega) (.inr (by rintro cs fz rfl; cases hc))⟩,?_,?_,?_,?_,h4.trans hbw,Nat.le_trans h6 hbw.size⟩
   ·show w1.heap[_]? = W.heap[_]?
    rw [ho3]
    exact hk _ _ ho3 (by omega) (.inl (by omega))
   ·exact hk _ _ h1 (by omega) (.inl (by omega))
   ·exact hk _ _ h2 (by omega) (.inl (by omega))
   ·rw [outP_snoc]
    have e1 : Lib.byteCells (outP fr to_ pre ++ (swapP fr to_ (t,fl)).data.toList) = Lib.byteCells (outP fr to_ pre) ++ Lib.strCells (swapP fr to_ (t,fl)):=by simp [Lib.byteCells,Lib.strCells]
    rw [e1]
    exact hb
  have hW:=writeString_at (w.heap.size + 4) (w.heap.size + 1 + 1) _ (swapP fr to_ (t,fl)) W h3 (by rw [Lib.byteCells_length]; exact hbnd) h6
  have hy : swapP fr to_ (t,fl) = if fl = true ∧ t = fr then to_ else t:=rfl
  obtain ⟨y,hyy⟩ : ∃ y,swapP fr to_ (t,fl) = y:=⟨_,rfl⟩
  rw [hyy] at hend hW hy
  clear hyy hbnd hpre h1 h2 h3 h4 h6 hs hlen hb0 b4 b5 bs bB hB0 hsz
  replace hend:=Lib.hid hend
  replace hW:=Lib.hid hW
  cases fl with
  | false =>
   rw [if_neg (by simp)] at hy
   subst hy
   gi_wp2_with (refine ⟨trivial,?_⟩; gi_at_call 139; refine (CallsIn.inRound l (callsIn_wide.2 hW.out)).mono ?_; rintro e w1 ⟨rfl,hrest⟩)
   exact hend.out _ _ _ ⟨rfl,hrest⟩
  | true =>
   by_cases htf : t = fr
   ·rw [if_pos ⟨rfl,htf⟩] at hy
    subst hy htf
    gi_wp2_with (refine ⟨trivial,?_⟩; gi_at_call 139; refine (CallsIn.inRound l (callsIn_wide.2 hW.out)).mono ?_; rintro e w1 ⟨rfl,hrest⟩)
    exact hend.out _ _ _ ⟨rfl,hrest⟩
   ·rw [if_neg (fun h => htf h.2)] at hy
    subst hy
    have hne : (y.toList == fr.toList) = false:=by
     rw [beq_eq_false_iff_ne]
     exact fun e => htf (toList_inj e)
    clear htf
    gi_wp2_with (refine ⟨trivial,?_⟩; gi_at_call 139; refine (CallsIn.inRound l (callsIn_wide.2 hW.out)).mono ?_; rintro e w1 ⟨rfl,hrest⟩)
    exact hend.out _ _ _ ⟨rfl,hrest⟩
 case done =>
  rintro D xs W hD hS ⟨h1,h2,h3,h4,h6⟩ hdf
  have hS' : outP fr to_ xs = outP fr to_ (piecesP s):=by rw [show xs = piecesP s from hS]
  rw [hS'] at h3
  clear hS hS' h1 h2 hs hlen hb0 b4 b5 bs bB hB0
  obtain ⟨o,ho⟩ : ∃ o,outP fr to_ (piecesP s) = o:=⟨_,rfl⟩
  rw [ho] at h3
  replace ho:=Lib.hid ho
  have hC:=string_at _ _ _ _ h3
  replace hC:=Lib.hid hC
  gi_wp2_with (refine ⟨trivial,?_⟩; gi_at_call 140; refine (callsIn_wide.2 hC.out).mono ?_; rintro e w1 ⟨rfl,hbl,hk⟩)
  have hdf2:=hk D _ hdf rfl
  refine ⟨by simp,.inl ⟨_,_,rfl,run_takeDeferred hdf2,?_⟩⟩
  refine ⟨.string ⟨o.toArray⟩,by simp [results,Tryz.results104,go_sem],by rw [ho.out],?_⟩
  exact (h4.trans (hbl w.heap.size (by omega))).trans (belowK_b (w:=w) (Nat.le_refl _) _ D _ _ (by omega) hdf2 rfl rfl)
 case stop => exact fun D pre W _ _ h _ => h.elim
theorem replace_at (s fr to_ : ByteArray) (w : World) (hs : s.size ≤ 1000000000) (ht : to_.size ≤ 100000) (hf : tokenB fr = true) :
  Calls Tryz.prog 104 #[.string s,.string fr,.string to_] w fun e w' => e = .returned (.string (replV s fr to_)) ∧ Below w.heap.size w w':=by
 have hl : (outP fr to_ (piecesP s)).length ≤ 140737488355328:=by
  have h1:=outP_bound fr to_ (piecesP s)
  rw [piecesP_sum] at h1
  have h2 : (piecesP s).length * to_.size ≤ 1000000000 * 100000:=Nat.mul_le_mul (Nat.le_trans (piecesP_len s) hs) ht
  omega
 have h:=callsIn_wide.1 (replace_in s fr to_ w (by omega) hl)
 rw [outP_repl s fr to_ hf] at h
 exact h
end Go.Proofs.YthhohbidjhcjeaaGreatDoor.H
namespace Go.Proofs.YthhohbidjhcjeaaGreatDoor.H
open Go.RowKit Go.Shelf Go.Proofs.YthhohbidjhcjeaaGreatDoorW.PrintWords Go.Proofs.YthhohbidjhcjeaaGreatDoorW.PrintLast Go.Proofs.YthhohbidjhcjeaaGreatDoorW.PrintMore
open Go.Proofs.YthhohbidjhcjeaaGreatDoor.Q Go.Proofs.YthhohbidjhcjeaaGreatDoor.Pl
set_option linter.unusedVariables false
set_option linter.unusedSimpArgs false
theorem one_news {W : World} {b : Nat} {u : Value} (h : W.cell? ⟨b,0,none⟩ = some u) : ∀ j x,[u][j]? = some x → W.cell? ((⟨b,0,none⟩ : Addr).add j) = some x:=by
 intro j x hx
 rcases j with _ | j
 ·simp only [List.getElem?_cons_zero,Option.some.injEq] at hx
  subst hx
  exact h
 ·simp at hx
theorem containsS_at (w U : World) (v : Value) (xs : List ByteArray) (h : RowS w U v xs) (x : ByteArray) :
  Calls Tryz.prog 102 #[v,.string x] U fun e w' => e = .returned (.bool (Lib.containsS xs x)) ∧ w' = U:=by
 obtain ⟨A,c,rfl,hc,hr⟩:=OwnRow.reads h
 rcases Nat.eq_zero_or_pos xs.length with h0 | h0
 ·rw [h0]
  rw [List.length_eq_zero_iff] at h0
  subst h0
  exact Tryz.slices_Contains_string_empty A c x U
 ·obtain ⟨ad,rfl,hcell⟩:=hr.2.2 h0
  have hpl : ad = ⟨ad.block,ad.off,none⟩:=by
   obtain ⟨inner,⟨_,⟨e,_⟩ | ⟨g,cap,cur,e,_⟩⟩,_⟩:=h
   ·cases e
   ·cases e; rfl
  obtain ⟨b,off,hbo⟩ : ∃ b off,ad = ⟨b,off,none⟩:=⟨_,_,hpl⟩
  subst hbo
  have hcc : ∀ j,j < xs.length → U.cell? ⟨b,off + j,none⟩ = some (.string (xs.getD j ByteArray.empty)):=by
   intro j hj
   obtain ⟨cs,hl,hR,hu⟩:=hcell j _ (List.getElem?_eq_getElem hj)
   have:=hu 0 (.string xs[j]) (by rw [show cs = [.string xs[j]] from hR]; rfl)
   rw [Nat.mul_one,Nat.add_zero] at this
   rw [List.getD_eq_getElem?_getD,List.getElem?_eq_getElem hj]
   rw [show (⟨b,off,none⟩ : Addr).add j = ⟨b,off + j,none⟩ from by simp [Addr.add]] at this
   exact this
  have h:=Tryz.slices_Contains_string b off xs.length c xs x U (Nat.le_refl _) hr.2.1 hcc
  rw [List.take_length] at h
  exact h
theorem tok_any (l : List ByteArray) (fr to_ : ByteArray) : tokV l fr to_ = if l.any (fun s => Lib.containsS (piecesV s) to_) then none else some (l.map (fun s => replV s fr to_)):=by
 have key : ∀ s,(runs s.data.toList).contains to_.data.toList = Lib.containsS (piecesV s) to_:=by
  intro s
  rw [Bool.eq_iff_iff,List.contains_iff_mem,Lib.containsS_iff]
  unfold piecesV
  rw [List.mem_map]
  constructor
  ·intro h; exact ⟨_,h,rfl⟩
  ·rintro ⟨r,hr,e⟩
   rw [← e]
   exact hr
 unfold tokV
 simp only [key]
theorem tok_no {l : List ByteArray} {fr to_ : ByteArray} {s : ByteArray} (hs : s ∈ l) (h : Lib.containsS (piecesV s) to_ = true) : tokV l fr to_ = none:=by
 rw [tok_any,if_pos (List.any_eq_true.2 ⟨s,hs,h⟩)]
theorem tok_yes {l : List ByteArray} {fr to_ : ByteArray} (h : ∀ s ∈ l,Lib.containsS (piecesV s) to_ = false) : tokV l fr to_ = some (l.map (fun s => replV s fr to_)):=by
 rw [tok_any,if_neg]
 rw [List.any_eq_true]
 rintro ⟨s,hs,h2⟩
 rw [h s hs] at h2
 cases h2
set_option maxHeartbeats 4000000 in
set_option maxRecDepth 1000000 in
theorem token_at (w : World) (p : S25) (v5 v6 : Value) (x : S41) (X : Option Addr) (c g o : Nat) (cur : Array Value) (W : World) (h5 : v5.oneCell' = true) (h6 : v6.oneCell' = true) (h8 : p.f0 = 8)
  (htk : tokenB p.f3 = true) (ht2 : p.f2.size ≤ 100000) (nx : x.f2.length ≤ 1000000000) (nl : ∀ s ∈ x.f2,s.size ≤ 1000000000)
  (hB : Below w.heap.size w W) (hg0 : w.heap.size ≤ g) (hg : W.heap[g]? = some (.cells cur 41 (0,0))) (hx : Ent cur o x X c) (rx : Re w x X c) :
  Calls Tryz.prog 56 #[.pointer (some ⟨g,o,none⟩),.agg #[.int .i64 p.f0,.string p.f1,.string p.f2,.string p.f3,.int .i64 p.f4,v5,v6]] W (Chg w p x g o cur):=by
 have hgw : g < W.heap.size:=blk_lt hg
 obtain ⟨W1,hW1⟩ : ∃ W1,W1 = W.alloc (.cells #[.int .i64 p.f0,.string p.f1,.string p.f2,.string p.f3,.int .i64 p.f4,v5,v6] 25):=⟨_,rfl⟩
 have hB1 : Below w.heap.size w W1:=by rw [hW1]; exact below_alloc hB _
 have hg1 : W1.heap[g]? = some (.cells cur 41 (0,0)):=by rw [hW1]; exact blk_alloc hg _
 obtain ⟨b0,b1,b2,b3,b4,b5,b6⟩:=cells7 (show W1.heap[W.heap.size]? = _ by rw [hW1]; exact blk_new W (.cells #[.int .i64 p.f0,.string p.f1,.string p.f2,.string p.f3,.int .i64 p.f4,v5,v6] 25))
 obtain ⟨c0,c1,c2,c3⟩:=ent_cells hg1 hx
 have hc : changeV x p = (tokV x.f2 p.f3 p.f2).map (fun l => { x with f2:=l }):=by unfold changeV; rw [if_neg (by omega),if_pos h8]
 have hno : ∀ W2,Below W1.heap.size W1 W2 → tokV x.f2 p.f3 p.f2 = none → Chg w p x g o cur (.returned (.bool false)) W2:=by
  intro W2 hb2 hn
  refine ⟨by rw [hc,hn]; rfl,hB1.trans (hb2.mono hB1.size),cur,blk_below hg1 hb2,⟨rfl,fun _ _ => rfl⟩,fun y hy => ?_⟩
  rw [hc,hn] at hy
  cases hy
 have hend : ∀ (W2 : World) (Y : Option Addr) (d : Nat),Below W1.heap.size W1 W2 → tokV x.f2 p.f3 p.f2 = some (x.f2.map (fun s => replV s p.f3 p.f2)) → RowS W1 W2 (.slice Y x.f2.length d) (x.f2.map (fun s => replV s p.f3 p.f2)) →
   Chg w p x g o cur (.returned (.bool true)) (W2.setCell ⟨g,o + 2,none⟩ (.slice Y x.f2.length d)):=by
  intro W2 Y d hb2 hs hrow
  have hB2 : Below w.heap.size w W2:=hB1.trans (hb2.mono hB1.size)
  have hg2 : W2.heap[g]? = some (.cells cur 41 (0,0)):=blk_below hg1 hb2
  have hb : Below w.heap.size w (W2.setCell ⟨g,o + 2,none⟩ (.slice Y x.f2.length d)):=below_set hB2 hg0
  refine ⟨by rw [hc,hs]; rfl,hb,_,blk_set hg2 (o + 2) _,same_set o 2 (by omega) _ _,fun y hy => ?_⟩
  rw [hc,hs] at hy
  rw [← Option.some.inj hy]
  have hrow2 : RowS W1 (W2.setCell ⟨g,o + 2,none⟩ (.slice Y x.f2.length d)) (.slice Y x.f2.length d) _:=OwnRow.set_ hrow hg2 (by decide) _ _
  obtain ⟨Y',d',he,hd,hcm⟩:=hrow2.C
  injection he with e1 e2 e3
  subst e1
  subst e3
  have hlen : x.f2.length = (x.f2.map (fun s => replV s p.f3 p.f2)).length:=by simp
  have hent:=ent_set2 hx (x.f2.map (fun s => replV s p.f3 p.f2)) Y d
  rw [← hlen] at hent
  exact ⟨Y,d,hent,hd,hcm⟩
 have hrd : ∀ (i : Nat) (hi : i < x.f2.length),∃ ad,X = some ad ∧ W1.cell? (ad.add i) = some (.string x.f2[i]):=by
  intro i hi
  have hC:=Kd.C_below rx.g hB1
  obtain ⟨ad,he,hcell⟩:=hC.2.2 (by omega)
  obtain ⟨cs,hl,hR,hu⟩:=hcell i _ (List.getElem?_eq_getElem hi)
  refine ⟨ad,he,?_⟩
  have:=hu 0 (.string x.f2[i]) (by rw [show cs = [.string x.f2[i]] from hR]; rfl)
  rw [show i * Kd.string.sz + 0 = i from Nat.mul_one i] at this
  exact this
 obtain ⟨l,hl⟩ : ∃ l,x.f2 = l:=⟨_,rfl⟩
 rw [hl] at hend hno hrd nx nl c2
 obtain ⟨n,hn⟩ : ∃ n,l.length = n:=⟨_,rfl⟩
 have HN:=Aside0.mk hn
 have HEND:=Aside0.mk hend
 have HNO:=Aside0.mk hno
 have HRD:=Aside0.mk hrd
 have HNL:=Aside0.mk nl
 have HTK:=Aside0.mk htk
 have HG1:=Aside0.mk hg1
 have f2:=blk_frozen hg1 (o + 2)
 obtain ⟨i0',hi',hz0,hz1,hz2⟩:=info_parts infoS
 replace hi':=Aside0.mk hi'
 replace hz0:=Aside0.mk hz0
 replace hz1:=Aside0.mk hz1
 replace hz2:=Aside0.mk hz2
 rw [hn] at c2 nx
 clear hend hno hrd nl htk hg1 hc rx hx hB hg0 hg h8 hn hl b0 b1 b4 b5 b6 c0 c1 c3 hB1
 have HC2:=Aside0.mk c2
 have hWs : W.heap.size < W1.heap.size:=by rw [hW1,World.size_alloc]; omega
 have hg1s : g < W1.heap.size:=by omega
 go_enter Tryz.func56,Tryz.ntmps56
 rw [hW1] at c2
 go_wp2
 rw [← hW1]
 go_loopg [5,13] n (fun kq u5 u13 w' => ∃ (i : Nat),u13 = .int .i64 (i : Int) ∧ Aside0 (i + kq = n) ∧ Aside0 (∀ s ∈ l.take i,Lib.containsS (piecesV s) p.f2 = false) ∧ Aside0 (RowS W1 w' u5 ((l.take i).map (fun s => replV s p.f3 p.f2))) ∧ Aside0 (Below W1.heap.size W1 w'))
 case atStart => exact ⟨0,rfl,⟨by omega⟩,⟨by simp⟩,⟨rowS_nil _ _⟩,⟨Below.refl _ _⟩⟩
 case round =>
  obtain ⟨i,rfl,hk,hnc,hR,hB⟩:=hrel
  by_cases hi : i < n
  ·have hil : i < l.length:=by rw [HN.out]; exact hi
   obtain ⟨ad,hX,hcell⟩:=HRD.out i hil
   subst hX
   have hcmp : decide ((i : Int) < (n : Int)) = true:=decide_eq_true (by omega)
   have i0 : (0 : Int) ≤ (i : Int):=by omega
   have i1 : (i : Int) < (n : Int):=by omega
   have hwi : IntKind.i64.wrap ((i : Int) + 1) = (i : Int) + 1:=wrap_small _ (by omega) (by omega)
   have hcw:=pw_cell_below hB.out hcell
   have d2:=pw_cell_below hB.out b2
   have d3:=pw_cell_below hB.out b3
   have htake : l.take (i + 1) = l.take i ++ [l[i]]:=by rw [List.take_append_getElem]
   have hsl:=HNL.out l[i] (List.getElem_mem _)
   have hsm : l[i] ∈ l:=List.getElem_mem _
   have hlm : ((l.take i).map (fun s => replV s p.f3 p.f2)).length = i:=by rw [List.length_map,List.length_take]; omega
   obtain ⟨s,hs⟩ : ∃ s,l[i] = s:=⟨_,rfl⟩
   rw [hs] at hcw htake hsl hsm
   obtain ⟨r,hr⟩ : ∃ r,Lib.containsS (piecesV s) p.f2 = r:=⟨_,rfl⟩
   have hT:=tokens_at s wr.drew hsl
   have hCo : ∀ U v,RowS wr.drew U v (piecesV s) → Calls Tryz.prog 102 #[v,.string p.f2] U fun e w' => e = .returned (.bool r) ∧ w' = U:=fun U v h => by rw [← hr]; exact containsS_at _ _ _ _ h _
   have hRp:=fun U => replace_at s p.f3 p.f2 U hsl ht2 HTK.out
   obtain ⟨y,hy⟩ : ∃ y,replV s p.f3 p.f2 = y:=⟨_,rfl⟩
   rw [hy] at hRp
   obtain ⟨inner5,hown,hr5⟩:=hR.out
   rw [hlm] at hown
   have hn1 : Aside0 (i + 1 ≤ maxLen):=⟨by unfold maxLen; omega⟩
   have hn2 : Aside0 ((i + 1) * 16 ≤ 140737488355328):=⟨by omega⟩
   replace hown:=Aside0.mk hown
   replace hr5:=Aside0.mk hr5
   replace hr:=Aside0.mk hr
   replace hy:=Aside0.mk hy
   replace htake:=Aside0.mk htake
   replace hsm:=Aside0.mk hsm
   replace hlm:=Aside0.mk hlm
   clear hcell hs hsl c2
   cases r with
   | true =>
    go_upto_region 5 with (fail)
    go_region_held3 (fun U => U.cell? ⟨W.heap.size,2,none⟩ = some (.string p.f2)) (first | exact d2 | exact pw_cell_below hb d2) (first | (go_at_call 103; refine hT.mono ?_; rintro e w2 ⟨v,rfl,hrow,hb⟩) | (go_at_call 102; refine (hCo _ _ hrow).mono ?_; rintro e w3 ⟨rfl,rfl⟩))
    all_goals go_wp2
    all_goals go_ret
    all_goals exact HNO.out _ (hB.out.trans (((below_drew (Below.refl _ _)).trans (hb.mono (Nat.le_refl _))).mono hB.out.size)) (tok_no hsm.out hr.out)
   | false =>
    go_upto_region 5 with (fail)
    go_region_held3 (fun U => U.cell? ⟨W.heap.size,2,none⟩ = some (.string p.f2)) (first | exact d2 | exact pw_cell_below hb d2) (first | (go_at_call 103; refine hT.mono ?_; rintro e w2 ⟨v,rfl,hrow,hb⟩) | (go_at_call 102; refine (hCo _ _ hrow).mono ?_; rintro e w3 ⟨rfl,rfl⟩))
    all_goals
     have hb4 : Below wr.heap.size wr w3:=(below_drew (Below.refl _ _)).trans (hb.mono (Nat.le_refl _))
     have d2':=pw_cell_below hb4 d2
     have d3':=pw_cell_below hb4 d3
     replace hrow:=Aside0.mk hrow
     replace hb4:=Aside0.mk hb4
     clear hb hCo hT d2 d3 b2 b3 hcw
     go_wp2_with (first
      | (go_at_call 104; refine (hRp _).mono ?_; rintro e w5 ⟨rfl,hb3⟩; have hb5 : Below wr.heap.size wr (w5.alloc (.cells #[.string y] 9)):=below_alloc (hb4.out.trans (hb3.mono hb4.out.size)) _; have hcy:=(Boxed.new w5 9 (.string y)).cell; replace hb5:=Aside0.mk hb5; replace hb3:=Aside0.mk hb3; replace hcy:=Aside0.mk hcy)
      | (at_builtin; refine wpList_append_own_at _ rfl _ _ 23 rfl W1.heap.size 9 i0' _ 1 16 Tryz.underlying23 hi'.out hz0.out hz1.out hz2.out rfl (by omega) _ _ _ rfl (pw_own_below hown.out hb5.out) ⟨w5.heap.size,0,none⟩ 1 1 [.string y] rfl rfl (one_news hcy.out) (by simp [Value.oneCell']) hn1.out hn2.out (Nat.le_trans hB.out.size hb5.out.size) ?_; intro v' w4 hown4 hgrow hnil hblk; have hB4 : Below W1.heap.size W1 w4:=(hB.out.trans (hb5.out.mono hB.out.size)).grown hgrow (Nat.le_trans hB.out.size hb5.out.size) (fun k hk => own_base hown.out k hk); replace hB4:=Aside0.mk hB4; replace hown4:=Aside0.mk hown4; clear hgrow hnil hblk))
     have hR4 : Aside0 (RowS W1 w4 v' ((l.take (i + 1)).map (fun s => replV s p.f3 p.f2))):=⟨by
      rw [htake.out,List.map_append,List.map_cons,List.map_nil,hy.out]
      refine ⟨_,?_,Reps.snoc (c:=[.string y]) (p:=y) hr5.out rfl rfl⟩
      rw [List.length_append,hlm.out]
      exact hown4.out⟩
     have hnc4 : Aside0 (∀ t ∈ l.take (i + 1),Lib.containsS (piecesV t) p.f2 = false):=⟨by
      rw [htake.out]
      intro t ht
      rcases List.mem_append.1 ht with ht | ht
      ·exact hnc.out t ht
      ·rw [List.mem_singleton.1 ht]
       exact hr.out⟩
     go_roundg (n - (i + 1))
     case measure => have:=hk.out; omega
     case rel => exact ⟨i + 1,by simp,⟨by omega⟩,hnc4,hR4,hB4⟩
  ·have hcmp : decide ((i : Int) < (n : Int)) = false:=decide_eq_false (by omega)
   have hin : i = n:=by have:=hk.out; omega
   have htk : l.take i = l:=by rw [hin,← HN.out,List.take_length]
   rw [htk] at hR hnc
   have hyes : Aside0 (tokV l p.f3 p.f2 = some (l.map (fun s => replV s p.f3 p.f2))):=⟨tok_yes hnc.out⟩
   obtain ⟨Y,d,hu5,hd⟩:=hR.out.slice
   rw [List.length_map,HN.out] at hu5
   subst hu5
   have c2w:=pw_cell_below hB.out HC2.out
   have f2w:=blk_frozen (blk_below HG1.out hB.out) (o + 2)
   have HE:=Aside0.mk (HEND.out wr Y d hB.out hyes.out)
   rw [HN.out] at HE
   clear hd hin htk c2 f2
   go_wp2
   go_ret
   exact HE.out hR.out
structure Mv (u : World) (l : List S41) (fr to_ : ByteArray) (g cap i : Nat) (wr : World) : Prop where
 below : Below u.heap.size u wr
 row : ∃ cur,wr.heap[g]? = some (.cells cur 41 (0,0)) ∧ cur.size = cap * 4 ∧ Reps (Rw u) 4 (mvL l fr to_ i) (cur.toList.take (l.length * 4))
 ok : ∀ j (hj : j < l.length),j < i → rightB (mvP (l[j]).f0 fr to_) = true
set_option maxHeartbeats 8000000 in
set_option maxRecDepth 1000000 in
theorem move_at (l : List S41) (A : Option Addr) (c : Nat) (p : S25) (v5 v6 : Value) (w : World) (h5 : v5.oneCell' = true) (h6 : v6.oneCell' = true)
  (hr : Kd.C k41 w A l.length l) (ht : Tr l) (hp : primB p = true) (h10 : p.f0 = 10) :
  Calls Tryz.prog 58 #[.slice A l.length c,.agg #[.int .i64 p.f0,.string p.f1,.string p.f2,.string p.f3,.int .i64 p.f4,v5,v6]] w (Ans w (moveL l p) (moveE l p)):=by
 have hl : l.length ≤ 1000000000:=by have:=ht.n; omega
 have hs:=ht.s
 have hp2 : p.f2.size ≤ 136:=right_size (prim_move hp h10).1
 have hap:=(prim_move hp h10).2
 have HB : Aside0 (Below w.heap.size w (w.alloc (.cells #[.int .i64 p.f0,.string p.f1,.string p.f2,.string p.f3,.int .i64 p.f4,v5,v6] 25))):=⟨below_alloc (Below.refl _ _) _⟩
 have HX : Aside0 ((w.alloc (.cells #[.int .i64 p.f0,.string p.f1,.string p.f2,.string p.f3,.int .i64 p.f4,v5,v6] 25)).heap[w.heap.size]? = some (.cells #[.int .i64 p.f0,.string p.f1,.string p.f2,.string p.f3,.int .i64 p.f4,v5,v6] 25 (0,0))):=⟨blk_new _ _⟩
 have h1:=where_at l A c p.f1 _ (Kd.C_below hr HB.out) hl hs
 have h2:=fun W (hb : Below w.heap.size w W) => room_at l A c p.f2 W (Kd.C_below hr hb) hl hs (by omega)
 obtain ⟨b0,b1,b2,b3,b4,b5,b6⟩:=cells7 HX.out
 have HR:=Aside0.mk hr
 have HS:=Aside0.mk hs
 have HL:=Aside0.mk hl
 have HTR:=Aside0.mk ht
 have HAP:=Aside0.mk hap
 have HP2:=Aside0.mk hp2
 obtain ⟨err,herr⟩ : ∃ err : Int,moveE l p = err:=⟨_,rfl⟩
 rw [herr]
 have ER:=Aside0.mk herr
 clear hr hs hl herr ht hp h10 hap hp2
 cases hf : (findV l p.f1).isSome with
 | false =>
  have HE : Aside0 (err = 72):=⟨by rw [← ER.out]; unfold moveE; rw [hf]; rfl⟩
  rw [hf] at h1
  clear hf h2
  go_enter Tryz.func58,Tryz.ntmps58
  go_wp2_with (go_at_call 92; refine h1.mono ?_; rintro e w1 ⟨rfl,hb⟩)
  go_ret2
  exact ⟨HB.out.trans (hb.mono HB.out.size),by rw [HE.out]; rfl⟩
 | true =>
  obtain ⟨t,hte⟩ : ∃ t,roomV l p.f2 = t:=⟨_,rfl⟩
  rw [hf] at h1
  have HF:=Aside0.mk hf
  have HT:=Aside0.mk hte
  rw [hte] at h2
  clear hf hte
  by_cases h0 : t = 0
  ·subst h0
   have HE : Aside0 (err = if l.all (fun x => rightB (mvP x.f0 p.f1 p.f2)) then 0 else 41):=⟨by rw [← ER.out]; unfold moveE; rw [HF.out,HT.out]; rfl⟩
   go_enter Tryz.func58,Tryz.ntmps58
   go_upto_region 4 with (go_at_call 92; refine h1.mono ?_; rintro e w1 ⟨rfl,hb⟩)
   have hB1:=Aside0.mk (HB.out.trans (hb.mono HB.out.size))
   have hX1:=Aside0.mk (blk_below HX.out hb)
   obtain ⟨c0,c1,c2,c3,c4,c5,c6⟩:=cells7 hX1.out
   clear b0 b1 b2 b3 b4 b5 b6 HB HX h1 hb
   have h2':=h2 w1 hB1.out
   go_upto_region 7 with (go_at_call 91; refine h2'.mono ?_; rintro e u ⟨rfl,hb⟩)
   have hBu:=Aside0.mk (hB1.out.trans (hb.mono hB1.out.size))
   have hXu:=Aside0.mk (blk_below hX1.out hb)
   clear c0 c1 c2 c3 c4 c5 c6 hX1 h2 h2' hb
   have hcl:=clone_at u l A c u (Below.refl _ _) HL.out (rows_rw (Kd.C_below HR.out hBu.out) (Below.refl _ _))
   go_upto_region 8 with (go_at_call 73; refine hcl.mono ?_; rintro e w2 ⟨v,rfl,hrow,hb2,hown⟩)
   clear hcl
   have hlpos : Aside0 (0 < l.length):=⟨by
    obtain ⟨x,hx⟩:=Option.isSome_iff_exists.1 HF.out
    exact List.length_pos_of_mem (find_mem hx).1⟩
   obtain ⟨inner,⟨hlen,ho⟩,hrp⟩:=hrow
   rcases ho with ⟨rfl,hn0⟩ | ⟨g,cap,cur,rfl,hg,hh,hnc,hcm,hcs,ht⟩
   ·have:=hlpos.out; omega
   ·have S0 : Aside0 (Mv u l p.f1 p.f2 g cap 0 w2):=⟨⟨hb2,⟨cur,hh,hcs,by rw [mvL_zero,ht]; exact hrp⟩,fun j hj h => absurd h (Nat.not_lt_zero _)⟩⟩
    have HG:=Aside0.mk hg
    have HCM:=Aside0.mk hcm
    have hnc' : (l.length : Int) ≤ (cap : Int):=by omega
    have HNC:=Aside0.mk hnc
    clear hlen hrp hg hh hnc hcm hcs ht hb2 hown
    go_wp2
    go_loopg [32] l.length (fun kx s32 wr => ∃ i : Nat,s32 = .int .i64 i ∧ i + kx = l.length ∧ Aside0 (Mv u l p.f1 p.f2 g cap i wr))
    case atStart => exact ⟨0,rfl,by omega,S0⟩
    case round =>
     clear S0
     obtain ⟨i,rfl,hi,S1⟩:=hrel
     by_cases hlt : i < l.length
     ·have hii0 : (0 : Int) ≤ (i : Int):=by omega
      have hii1 : (i : Int) < (l.length : Int):=by omega
      have hdb : decide ((i : Int) < (l.length : Int)) = true:=decide_eq_true hii1
      have hwi : IntKind.i64.wrap ((i : Int) + 1) = ((i + 1 : Nat) : Int):=by rw [wrap_small _ (by omega) (by have:=HL.out; omega)]; omega
      obtain ⟨cur2,hh2,hcs2,hrp2⟩:=S1.out.row
      obtain ⟨X,d,hent,rx⟩:=ent_of hrp2 (mvL_get l p.f1 p.f2 i hlt)
      have hxu:=blk_below hXu.out S1.out.below
      obtain ⟨d0,d1,d2,d3,d4,d5,d6⟩:=cells7 hxu
      obtain ⟨e0',e1',e2',e3'⟩:=ent_cells hh2 hent
      obtain ⟨x,hx⟩ : ∃ x,l[i] = x:=⟨_,rfl⟩
      rw [hx] at hent rx e0' e1' e2' e3'
      have hxm : x ∈ l:=by rw [← hx]; exact List.getElem_mem hlt
      have hxr:=((thing_iff x).mp (HTR.out.t x hxm)).1
      have hxs:=right_size hxr
      have hM:=fun W => moved_calls x.f0 p.f1 p.f2 W (by have:=HP2.out; omega)
      have HXX:=Aside0.mk hx
      have HXR:=Aside0.mk hxr
      have HENT:=Aside0.mk hent
      have RX:=Aside0.mk rx
      have HH2:=Aside0.mk hh2
      have HCS2:=Aside0.mk hcs2
      have HRP2:=Aside0.mk hrp2
      have HXS:=Aside0.mk hxs
      have ff:=blk_frozen hh2 (i * 4)
      clear hent rx hh2 hcs2 hrp2 hxu hx hxm hxr hxs d0 d3 d4 d5 d6 e1' e2' e3'
      cases hw : withinB x.f0 p.f1 with
      | false =>
       rw [hw] at hM
       have HW:=Aside0.mk hw
       clear hw
       go_wp2
       go_region_held3 (fun U => U.cell? ⟨g,i * 4,none⟩ = some (.string x.f0) ∧ U.cell? ⟨w.heap.size,1,none⟩ = some (.string p.f1) ∧ U.cell? ⟨w.heap.size,2,none⟩ = some (.string p.f2)) (first | exact ⟨e0',d1,d2⟩ | exact ⟨pw_cell_below hb e0',pw_cell_below hb d1,pw_cell_below hb d2⟩) ((go_at_call 105; refine (hM _).mono ?_; rintro e w3 ⟨rfl,hb⟩))
       all_goals
        have S2 : Aside0 (Mv u l p.f1 p.f2 g cap (i + 1) w3):=⟨⟨(below_drew S1.out.below).trans (hb.mono S1.out.below.size),⟨cur2,blk_below (blk_drew HH2.out) hb,HCS2.out,by rw [mvL_same l p.f1 p.f2 i hlt (by rw [HXX.out]; exact HW.out)]; exact HRP2.out⟩,fun j hj hji => by
         rcases Nat.lt_or_ge j i with h | h
         ·exact S1.out.ok j hj h
         ·have : j = i:=by omega
          subst this
          rw [HXX.out,mvP_out _ HW.out]; exact HXR.out⟩⟩
        clear hb e0' d1 d2 hM
        go_wp2
        go_roundg (l.length - (i + 1))
        case measure => omega
        case rel => exact ⟨i + 1,by first | rfl | (rw [hwi]),by omega,S2⟩
      | true =>
       rw [hw] at hM
       have HW:=Aside0.mk hw
       obtain ⟨tt,htt⟩ : ∃ tt,mv x.f0 p.f1 p.f2 = tt:=⟨_,rfl⟩
       have HTT:=Aside0.mk htt
       rw [if_pos rfl,htt] at hM
       have hts : tt.size ≤ 140737488355328:=by
        rw [← htt]
        unfold mv
        have h1:=HP2.out
        have h2:=HXS.out
        have h3 : (x.f0.extract p.f1.size x.f0.size).size = x.f0.size - p.f1.size:=by simp
        rw [ByteArray.size_append,h3]
        omega
       obtain ⟨rb,hrb⟩ : ∃ rb,rightB tt = rb:=⟨_,rfl⟩
       have hP:=fun W => path_Right.calls tt rb W (by rw [path_f tt hts,hrb])
       have HRB:=Aside0.mk hrb
       clear hw htt hts hrb
       have hstep : Aside0 (∀ w3 w4,Below wr.drew.heap.size wr.drew w3 → Below (w3.setCell ⟨g,i * 4,none⟩ (.string tt)).heap.size (w3.setCell ⟨g,i * 4,none⟩ (.string tt)) w4 → Below u.heap.size u w4 ∧ (rb = true → Mv u l p.f1 p.f2 g cap (i + 1) w4)):=⟨by
        intro w3 w4 hb hb4
        have k1 : Below u.heap.size u w3:=(below_drew S1.out.below).trans (hb.mono S1.out.below.size)
        have k2 : Below u.heap.size u (w3.setCell ⟨g,i * 4,none⟩ (.string tt)):=below_set k1 HG.out
        have k3 : Below u.heap.size u w4:=k2.trans (hb4.mono k2.size)
        refine ⟨k3,fun hrt => ⟨k3,⟨_,blk_below (blk_set (blk_below (blk_drew HH2.out) hb) (i * 4) _) hb4,by rw [Array.size_setIfInBounds]; exact HCS2.out,?_⟩,fun j hj hji => ?_⟩⟩
        ·have h1:=reps_set HRP2.out (by rw [mvL_len]) (by rw [mvL_len,HCS2.out]; have:=HNC.out; omega) (Below.refl _ _) (same_set (i * 4) 0 (by omega) cur2 (.string tt)) (by rw [mvL_len]; exact hlt) (ent_set0 HENT.out tt) ⟨RX.out.l,RX.out.g⟩
         rw [mvL_len] at h1
         rw [mvL_set l p.f1 p.f2 i hlt,HXX.out]
         have h2 : mvX p.f1 p.f2 x = { x with f0:=tt }:=by
          unfold mvX
          rw [mvP_in _ HW.out,HTT.out]
         rw [h2]
         exact h1
        ·rcases Nat.lt_or_ge j i with h | h
         ·exact S1.out.ok j hj h
         ·have : j = i:=by omega
          subst this
          rw [HXX.out,mvP_in _ HW.out,HTT.out,HRB.out,hrt]⟩
       cases rb with
       | false =>
        go_wp2
        go_region_held3 (fun U => U.cell? ⟨g,i * 4,none⟩ = some (.string x.f0) ∧ U.cell? ⟨w.heap.size,1,none⟩ = some (.string p.f1) ∧ U.cell? ⟨w.heap.size,2,none⟩ = some (.string p.f2)) (first | exact ⟨e0',d1,d2⟩ | exact ⟨pw_cell_below hb e0',pw_cell_below hb d1,pw_cell_below hb d2⟩) ((go_at_call 105; refine (hM _).mono ?_; rintro e w3 ⟨rfl,hb⟩))
        all_goals
         have ff3:=blk_frozen (blk_below (blk_drew HH2.out) hb) (i * 4)
         have ee3:=pw_cell_below hb e0'
         have HBB:=Aside0.mk hb
         clear hb d1 d2 hM e0'
         go_wp2_with (go_at_call 66; refine (hP _).mono ?_; rintro e w4 ⟨rfl,hb4⟩)
         go_ret2
         have hbe:=hBu.out.trans ((hstep.out _ _ HBB.out hb4).1.mono hBu.out.size)
         have he41 : err = 41:=by
          rw [HE.out,if_neg]
          intro k
          have h1:=List.all_eq_true.mp k x (by rw [← HXX.out]; exact List.getElem_mem hlt)
          rw [mvP_in _ HW.out,HTT.out,HRB.out] at h1
          cases h1
         exact ⟨hbe,by rw [he41]; rfl⟩
       | true =>
        go_wp2
        go_region_held3 (fun U => U.cell? ⟨g,i * 4,none⟩ = some (.string x.f0) ∧ U.cell? ⟨w.heap.size,1,none⟩ = some (.string p.f1) ∧ U.cell? ⟨w.heap.size,2,none⟩ = some (.string p.f2)) (first | exact ⟨e0',d1,d2⟩ | exact ⟨pw_cell_below hb e0',pw_cell_below hb d1,pw_cell_below hb d2⟩) ((go_at_call 105; refine (hM _).mono ?_; rintro e w3 ⟨rfl,hb⟩))
        all_goals
         have ff3:=blk_frozen (blk_below (blk_drew HH2.out) hb) (i * 4)
         have ee3:=pw_cell_below hb e0'
         have HBB:=Aside0.mk hb
         clear hb d1 d2 hM e0'
         go_wp2_with (go_at_call 66; refine (hP _).mono ?_; rintro e w4 ⟨rfl,hb4⟩)
         have S2:=Aside0.mk ((hstep.out _ _ HBB.out hb4).2 (by first | trivial | rfl))
         go_roundg (l.length - (i + 1))
         case measure => omega
         case rel => exact ⟨i + 1,by first | rfl | (rw [hwi]),by omega,S2⟩
     ·have hie : i = l.length:=by omega
      have hdb : decide ((i : Int) < (l.length : Int)) = false:=decide_eq_false (by omega)
      have hn2:=(room_zero.mp HT.out).1
      have hdis:=move_dis HS.out (fr:=p.f1) (HTR.out.none_within hn2)
      obtain ⟨cur2,hh2,hcs2,hrp2⟩:=S1.out.row
      rw [hie,mvL_all] at hrp2
      have hlm : (l.map (mvX p.f1 p.f2)).length = l.length:=List.length_map ..
      have hrow : Row u wr (.slice (some ⟨g,0,none⟩) (l.map (mvX p.f1 p.f2)).length cap) (l.map (mvX p.f1 p.f2)) :=
       ⟨_,⟨hrp2.1,Or.inr ⟨g,cap,cur2,rfl,HG.out,hh2,by rw [hlm]; exact HNC.out,HCM.out,hcs2,by rw [hlm]⟩⟩,hrp2⟩
      have hS:=sort_at u (l.map (mvX p.f1 p.f2)) g cap wr hrow S1.out.below (by rw [hlm]; exact HL.out) hdis
      rw [hlm] at hS
      have he0 : Aside0 (err = 0):=⟨by
       rw [HE.out,if_pos]
       rw [List.all_eq_true]
       intro x hx
       obtain ⟨j,hj,rfl⟩:=List.getElem_of_mem hx
       exact S1.out.ok j hj (by omega)⟩
      clear hrow hrp2 hh2 hcs2 hn2 hdis hlm
      go_wp2_with (go_at_call 106; refine hS.mono ?_; rintro e w3 ⟨rfl,hb3,hrr⟩)
      go_ret2
      have hB3:=hBu.out.trans (hb3.mono hBu.out.size)
      refine ⟨hB3,?_⟩
      rw [if_pos he0.out]
      have hml : (moveL l p).length = l.length:=by unfold moveL; rw [sort_len,List.length_map]
      refine ⟨some ⟨g,0,none⟩,cap,by rw [hml]; rfl,by rw [hml]; exact HNC.out,?_⟩
      rw [hml]
      refine ReadsRow.imp_ hrr (Below.refl _ _) ?_
      rintro pp cl ⟨X',x',rfl,rx'⟩
      exact k41_mk _ pp rx'.l (Kd.C_below rx'.g hb3)
  ·have HE : Aside0 (err = t):=⟨by rw [← ER.out]; unfold moveE; rw [HF.out,HT.out,if_pos rfl,if_neg h0]⟩
   have hne : (t == 0) = false:=by simp [h0]
   have hne2 : (t != 0) = true:=by simp [h0]
   have H00:=Aside0.mk h0
   go_enter Tryz.func58,Tryz.ntmps58
   go_upto_region 4 with (go_at_call 92; refine h1.mono ?_; rintro e w1 ⟨rfl,hb⟩)
   have hB1:=Aside0.mk (HB.out.trans (hb.mono HB.out.size))
   have hX1:=Aside0.mk (blk_below HX.out hb)
   obtain ⟨c0,c1,c2,c3,c4,c5,c6⟩:=cells7 hX1.out
   clear b0 b1 b2 b3 b4 b5 b6 HB HX h1 hb
   have h2':=h2 w1 hB1.out
   go_wp2_with (go_at_call 91; refine h2'.mono ?_; rintro e u ⟨rfl,hb⟩)
   go_ret2
   exact ⟨hB1.out.trans (hb.mono hB1.out.size),by rw [HE.out,if_neg H00.out]; rfl⟩
def MapI (W : World) (b n : Nat) (f : ByteArray → Int) : Prop :=
 ∃ D : DataW Unit,W.ownsMap Tryz.prog 9 (plainElem Tryz.prog 3) b n D ∧ Go.Maps.IsMap D ∧ ∀ s : ByteArray,s.size ≤ maxLen → D.atKey (.string s.data.toList) (.lit (.int .i64 0)) = .lit (.int .i64 (f s))
theorem MapI.made (w : World) : MapI (w.alloc (.map #[] 0)) w.heap.size 0 (fun _ => 0):=⟨.map [],World.ownsMap_made w _ _ _,⟨_,rfl⟩,fun s _ => rfl⟩
theorem MapI.mono {W : World} {b n n' : Nat} {f : ByteArray → Int} (h : MapI W b n f) (hn : n ≤ n') : MapI W b n' f:=by
 obtain ⟨D,ho,hm,hf⟩:=h
 exact ⟨D,ho.mono hn,hm,hf⟩
theorem MapI.later {W W' : World} {b n : Nat} {f : ByteArray → Int} (h : MapI W b n f) (hb : Below W.heap.size W W') : MapI W' b n f:=by
 obtain ⟨D,ho,hm,hf⟩:=h
 obtain ⟨es,clock,hbk,F,hs,hD⟩:=ho
 exact ⟨D,⟨es,clock,(hb.block b (Array.getElem?_eq_some_iff.1 hbk).1).trans hbk,F,hs,hD⟩,hm,hf⟩
theorem keyS {s : ByteArray} (hs : s.size ≤ maxLen) : keyOf Tryz.prog 9 (.string s) = some (.string s.data.toList):=Go.WideMaps.keyOf_string_mk Tryz.underlying9 hs
set_option maxRecDepth 100000 in
theorem MapI.lookup {W : World} {b n : Nat} {f : ByteArray → Int} (h : MapI W b n f) (s : ByteArray) (hs : s.size ≤ maxLen) : (Instr.lookup 108 (.map (some b)) (.string s) false).run Tryz.prog W = .ok (.int .i64 (f s)) W:=by
 obtain ⟨D,ho,hm,hf⟩:=h
 obtain ⟨c,hrun,hat,_⟩:=ho.lookup_int (Go.Maps.string_keyed Tryz.underlying9) Tryz.underlying108 Tryz.underlying3 (Tryz.zeroValue3 W) (keyS hs)
 rw [hf s hs] at hat
 injection hat with hat
 injection hat with h1 h2
 rw [h2]; exact hrun
set_option maxRecDepth 100000 in
theorem MapI.update {W : World} {b n : Nat} {f : ByteArray → Int} (h : MapI W b n f) (s : ByteArray) (hs : s.size ≤ maxLen) (v : Int) (hv : (Lit.int .i64 v).wf = true) (hn : n < maxLen) :
  ∃ w',(Instr.mapUpdate 108 (.map (some b)) (.string s) (.int .i64 v)).run Tryz.prog W = .ok () w' ∧ MapI w' b (n + 1) (fun t => if t = s then v else f t) ∧ W.grownBy w' (some b):=by
 obtain ⟨D,ho,hm,hf⟩:=h
 obtain ⟨w',hrun,ho',hg⟩:=ho.update (Go.Maps.string_keyed Tryz.underlying9) Tryz.underlying108 hn (keyS hs) (plainElem_int Tryz.underlying3 hv)
 refine ⟨w',hrun,⟨_,ho',hm.put _ _,fun t ht => ?_⟩,hg⟩
 show _ = DataW.lit (Lit.int .i64 (if t = s then v else f t))
 by_cases e : t = s
 ·subst e
  rw [if_pos rfl,Go.Maps.atKey_put_same hm (by trivial)]
 ·rw [if_neg e,Go.Maps.atKey_put_other (fun k => e (data_inj (by injection k))),hf t ht]
def cntD (l : List S41) (p : ByteArray) : Int:=((l.filter (fun x => decide (x.f0 = p) && decide (x.f1 = 1))).length : Nat)
theorem cntD_le (l : List S41) (p : ByteArray) : 0 ≤ cntD l p ∧ cntD l p ≤ l.length:=by
 unfold cntD
 have:=List.length_filter_le (fun x : S41 => decide (x.f0 = p) && decide (x.f1 = 1)) l
 omega
theorem cntD_zero (l : List S41) (p : ByteArray) : (cntD l p == 0) = !dirB l p:=by
 rw [Bool.eq_iff_iff]
 unfold cntD dirB
 simp only [beq_iff_eq,Bool.not_eq_true',List.any_eq_false]
 constructor
 ·intro h x hx k
  have h1 : (l.filter (fun x => decide (x.f0 = p) && decide (x.f1 = 1))).length = 0:=by omega
  have h2:=List.length_eq_zero_iff.mp h1
  have h3 : x ∈ l.filter (fun x => decide (x.f0 = p) && decide (x.f1 = 1)):=List.mem_filter.mpr ⟨hx,k⟩
  rw [h2] at h3; cases h3
 ·intro h
  have : l.filter (fun x => decide (x.f0 = p) && decide (x.f1 = 1)) = []:=List.filter_eq_nil_iff.mpr fun x hx => h x hx
  rw [this]; rfl
theorem cntD_snoc (l : List S41) (x : S41) (p : ByteArray) : cntD (l ++ [x]) p = if p = x.f0 ∧ x.f1 = 1 then cntD l x.f0 + 1 else cntD l p:=by
 unfold cntD
 rw [List.filter_append,List.length_append]
 by_cases h : p = x.f0 ∧ x.f1 = 1
 ·rw [if_pos h]
  obtain ⟨rfl,h1⟩:=h
  simp [h1]
 ·rw [if_neg h]
  have : [x].filter (fun x => decide (x.f0 = p) && decide (x.f1 = 1)) = []:=by
   rw [List.filter_eq_nil_iff]
   intro y hy
   rw [List.mem_singleton] at hy
   subst hy
   simp only [Bool.and_eq_true,decide_eq_true_eq]
   intro k
   exact h ⟨k.1.symm,k.2⟩
  rw [this]; simp
theorem steps_app : ∀ (r1 l r2 : List S41),stepsB l (r1 ++ r2) = (stepsB l r1 && stepsB (l ++ r1) r2)
 | [],l,r2 => by simp [stepsB]
 | x :: r1,l,r2 => by
  show (nextB l x && stepsB (l ++ [x]) (r1 ++ r2)) = ((nextB l x && stepsB (l ++ [x]) r1) && _)
  rw [steps_app r1,Bool.and_assoc,List.append_assoc]
  rfl
theorem steps_take {l : List S41} {i : Nat} (h : i < l.length) : stepsB [] (l.take (i + 1)) = (stepsB [] (l.take i) && nextB (l.take i) l[i]):=by
 rw [List.take_succ_eq_append_getElem h,steps_app]
 simp [stepsB]
theorem steps_false {l : List S41} {i : Nat} (h : stepsB [] (l.take i) = false) : stepsB [] l = false:=by
 rw [← List.take_append_drop i l,steps_app,h,Bool.false_and]
theorem next_first (x : S41) : nextB [] x = (thingB x && (match parentV x.f0 with | none => true | some p => dirB [] p)):=by
 unfold nextB
 simp only [List.getLast?_nil,Bool.and_true]
 rfl
theorem next_later (l : List S41) (i : Nat) (hi : 0 < i) (h : i ≤ l.length) (x : S41) : nextB (l.take i) x = (thingB x && ltP (l.getD (i - 1) z41).f0 x.f0 && (match parentV x.f0 with | none => true | some p => dirB (l.take i) p)):=by
 have hl : (l.take i).getLast? = some (l.getD (i - 1) z41):=by
  rw [List.getLast?_eq_getElem?,List.length_take,Nat.min_eq_left h,List.getElem?_take,if_pos (by omega),getD_get (by omega),List.getElem?_eq_getElem (by omega)]
 unfold nextB
 rw [hl]
 rfl

set_option maxHeartbeats 16000000 in
set_option maxRecDepth 1000000 in
theorem tree_at (l : List S41) (A : Option Addr) (c : Nat) (w : World) (hr : Kd.C k41 w A l.length l) (hp : ∀ x ∈ l,x.f0.size ≤ 1000000000000) :
  Calls Tryz.prog 51 #[.slice A l.length c] w fun e w' => e = .returned (.bool (treeB l)) ∧ Below w.heap.size w w':=by
 have HR:=Aside0.mk hr
 have HP:=Aside0.mk hp
 have hn63 : l.length ≤ 9223372036854775807:=hr.2.1
 clear hr hp
 by_cases hbig : l.length ≤ 1024
 ·have hb1 : decide ((1024 : Int) < (l.length : Int)) = false:=decide_eq_false (by omega)
  have ht : treeB l = stepsB [] l:=by unfold treeB; rw [decide_eq_true hbig,Bool.true_and]
  rw [ht]
  clear ht
  obtain ⟨T,hT⟩ : ∃ T,stepsB [] l = T:=⟨_,rfl⟩
  rw [hT]
  have HT:=Aside0.mk hT
  have M0 : Aside0 (MapI (w.alloc (.map #[] 0)) w.heap.size 0 (cntD (l.take 0))):=⟨by
   have h : cntD (l.take 0) = fun _ => 0:=by funext s; rfl
   rw [h]; exact MapI.made w⟩
  have B0 : Aside0 (Below w.heap.size w (w.alloc (.map #[] 0))):=⟨below_alloc (Below.refl _ _) _⟩
  have S0 : Aside0 (stepsB [] (l.take 0) = true):=⟨rfl⟩
  clear hT
  have hmk : ∀ W,(Instr.makeMap 108 none).run Tryz.prog W = .ok (.map (some W.heap.size)) (W.alloc (.map #[] 0)):=fun W => run_makeMap 108 W
  go_enter Tryz.func51,Tryz.ntmps51
  go_wp2
  go_loopg [14] l.length (fun kx s14 wr => ∃ i : Nat,s14 = .int .i64 i ∧ i + kx = l.length ∧ Aside0 (Below w.heap.size w wr) ∧ Aside0 (MapI wr w.heap.size i (cntD (l.take i))) ∧ Aside0 (stepsB [] (l.take i) = true))
  case atStart => exact ⟨0,rfl,by omega,B0,M0,S0⟩
  case round =>
   clear B0 M0 S0
   obtain ⟨i,rfl,hi,B1,M1,S1⟩:=hrel
   by_cases hlt : i < l.length
   ·have hi0 : (0 : Int) ≤ (i : Int):=by omega
    have hi1 : (i : Int) < (l.length : Int):=by omega
    have hdb : decide ((i : Int) < (l.length : Int)) = true:=decide_eq_true hi1
    obtain ⟨ad,X,d,rfl,rx,c0,c1,c2,c3⟩:=ent_at (Kd.C_below HR.out B1.out) i hlt rfl
    obtain ⟨x,hx⟩ : ∃ x,l.getD i z41 = x:=⟨_,rfl⟩
    rw [hx] at rx c0 c1 c2 c3
    have hxi : l[i] = x:=by rw [← hx,getD_get hlt]
    have HXI:=Aside0.mk hxi
    have hsz : x.f0.size ≤ 1000000000000:=HP.out x (by rw [← hxi]; exact List.getElem_mem hlt)
    have hst:=steps_take hlt
    rw [hxi,S1.out,Bool.true_and] at hst
    have HST:=Aside0.mk hst
    have HSZ:=Aside0.mk hsz
    have hPar:=fun W => parent_calls x.f0 W hsz
    obtain ⟨up,hup⟩ : ∃ up,parentV x.f0 = up:=⟨_,rfl⟩
    have HPV:=Aside0.mk hup
    rw [hup] at hPar
    have RX:=Aside0.mk rx
    have HB2 : Aside0 (Below w.heap.size w (wr.alloc (.cells #[.string x.f0,.int .i64 x.f1,.slice X x.f2.length d,.string x.f3] 41))):=⟨below_alloc B1.out _⟩
    have HXB : Aside0 ((wr.alloc (.cells #[.string x.f0,.int .i64 x.f1,.slice X x.f2.length d,.string x.f3] 41)).heap[wr.heap.size]? = some (.cells #[.string x.f0,.int .i64 x.f1,.slice X x.f2.length d,.string x.f3] 41 (0,0))):=⟨blk_new _ _⟩
    obtain ⟨k0,k1,k2,k3⟩:=cells4 HXB.out
    clear hx hxi hst rx hsz hup
    go_upto_region 8 with (go_at_call 89; refine (hPar _).mono ?_; rintro e w' ⟨rfl,rfl⟩)
    generalize hwr2 : wr.alloc (.cells #[.string x.f0,.int .i64 x.f1,.slice X x.f2.length d,.string x.f3] 41) = wr2 at HB2 HXB k0 k1 k2 k3 ⊢
    have HMI : Aside0 (MapI wr2 w.heap.size i (cntD (l.take i))):=⟨M1.out.later (by rw [← hwr2]; exact below_alloc (Below.refl _ _) _)⟩
    have hw2b : Below wr.heap.size wr wr2:=by rw [← hwr2]; exact below_alloc (Below.refl _ _) _
    have hTh : ∀ W,Below wr2.drew.heap.size wr2.drew W → Calls Tryz.prog 90 #[.agg #[.string x.f0,.int .i64 x.f1,.slice X x.f2.length d,.string x.f3]] W fun e w' => e = .returned (.bool (thingB x)) ∧ Below W.heap.size W w':=fun W hb => thing_at x X d W (RX.out.later ((hw2b.trans ((below_drew (Below.refl _ _)).mono hw2b.size)).trans (hb.mono hw2b.size))) (Nat.le_trans HSZ.out (by decide))
    have HW2B:=Aside0.mk hw2b
    obtain ⟨th,hth⟩ : ∃ th,thingB x = th:=⟨_,rfl⟩
    rw [hth] at hTh
    have HTH:=Aside0.mk hth
    clear hwr2 hw2b hth k0 k1 k2 k3 c0 c1 c2 c3 hPar
    cases th with
    | false =>
     have hno : Aside0 (T = false):=⟨by
      rw [← HT.out]
      refine steps_false (i:=i + 1) ?_
      rw [HST.out]
      unfold nextB
      rw [HTH.out,Bool.false_and,Bool.false_and]⟩
     refine wp_region_held_drew (S:=Below wr2.drew.heap.size wr2.drew) (by kernel_rfl) (Below.refl _ _) (fun hS => ?_)
     refine' tkE 0 25 hS ?_ ?_; rotate_left
     ·intro W' hSW; obtain ⟨k0,k1,k2,k3⟩:=cells4 (blk_below (blk_drew HXB.out) hSW); go_simp; (try with_reducible rfl)
     simp only [Act.put,List.setIfInBounds_toArray,List.set_cons_zero,List.set_cons_succ]
     refine wpAnyH_ready (rs:=[1]) (by kernel_rfl) (by simp) (AllReadyH.cons rfl (fun K hK => ?_) AllReadyH.nil)
     go_simp
     refine (hTh _ hS).mono ?_
     rintro e W2 ⟨rfl,hb⟩
     have hS:=hS.trans (hb.mono hS.size)
     clear hb
     refine hK.out _ _ hS (fun _ => ?_)
     clear hK K
     refine' tkE 2 27 hS ?_ ?_; rotate_left
     ·intro W' hSW; go_simp; (try with_reducible rfl)
     refine' tkE 3 28 hS ?_ ?_; rotate_left
     ·intro W' hSW; go_simp; (try with_reducible rfl)
     simp only [Act.put,List.setIfInBounds_toArray,List.set_cons_zero,List.set_cons_succ]
     refine tkUs (fun _ _ _ _ h => h) hS [(4,29),(5,30),(6,31),(7,32),(8,33),(9,34),(10,35),(11,36),(12,37),(13,38),(14,39),(15,40),(16,41)] 10 rfl (by kernel_rfl) ?_
     simp only [skipL,skipP,Act.put,List.setIfInBounds_toArray,List.set_cons_zero,List.set_cons_succ]
     refine' tkE 17 42 hS ?_ ?_; rotate_left
     ·intro W' hSW; go_simp; (try with_reducible rfl)
     refine' tkE 18 43 hS ?_ ?_; rotate_left
     ·intro W' hSW; go_simp; (try with_reducible rfl)
     simp only [Act.put,List.setIfInBounds_toArray,List.set_cons_zero,List.set_cons_succ]
     refine tkUs (fun _ _ _ _ h => h) hS [(19,44),(20,45),(21,46),(22,47),(23,48),(24,49),(25,50)] 1 rfl (by kernel_rfl) ?_
     simp only [skipL,skipP,Act.put,List.setIfInBounds_toArray,List.set_cons_zero,List.set_cons_succ]
     refine' tkE 26 51 hS ?_ ?_; rotate_left
     ·intro W' hSW; go_simp; (try with_reducible rfl)
     simp only [Act.put,List.setIfInBounds_toArray,List.set_cons_zero,List.set_cons_succ]
     refine wpAnyH_done (by kernel_rfl) ?_ _
     go_wp2
     go_ret
     exact ⟨by rw [hno.out]; rfl,HB2.out.drew.trans (hS.mono HB2.out.drew.size)⟩
    | true =>
     rcases Nat.eq_zero_or_pos i with hi00 | hpos
     ·have hgt : decide ((0 : Int) < (i : Int)) = false:=decide_eq_false (by omega)
      have hgt2 : decide (0 < i) = false:=decide_eq_false (by omega)
      have hgt3 : (0 < i) = False:=eq_false (by omega)
      have HI0:=Aside0.mk hi00
      clear hi00
      cases up with
      | none =>
       have hyes : Aside0 (nextB (l.take i) x = true):=⟨by rw [show l.take i = [] from by rw [HI0.out]; rfl,next_first,HTH.out,Bool.true_and,HPV.out]⟩
       refine wp_region_held_drew (S:=Below wr2.drew.heap.size wr2.drew) (by kernel_rfl) (Below.refl _ _) (fun hS => ?_)
       refine' tkE 0 25 hS ?_ ?_; rotate_left
       ·intro W' hSW; obtain ⟨k0,k1,k2,k3⟩:=cells4 (blk_below (blk_drew HXB.out) hSW); go_simp; (try with_reducible rfl)
       simp only [Act.put,List.setIfInBounds_toArray,List.set_cons_zero,List.set_cons_succ]
       refine wpAnyH_ready (rs:=[1]) (by kernel_rfl) (by simp) (AllReadyH.cons rfl (fun K hK => ?_) AllReadyH.nil)
       go_simp
       refine (hTh _ hS).mono ?_
       rintro e W2 ⟨rfl,hb⟩
       have hS:=hS.trans (hb.mono hS.size)
       clear hb
       refine hK.out _ _ hS (fun _ => ?_)
       clear hK K
       refine' tkE 2 27 hS ?_ ?_; rotate_left
       ·intro W' hSW; go_simp; (try with_reducible rfl)
       refine' tkE 3 28 hS ?_ ?_; rotate_left
       ·intro W' hSW; go_simp; (try with_reducible rfl)
       refine' tkE 4 29 hS ?_ ?_; rotate_left
       ·intro W' hSW; go_simp; (try with_reducible rfl)
       refine' tkE 5 30 hS ?_ ?_; rotate_left
       ·intro W' hSW; go_simp; (try with_reducible rfl)
       refine' tkE 6 31 hS ?_ ?_; rotate_left
       ·intro W' hSW; go_simp; (try with_reducible rfl)
       simp only [Act.put,List.setIfInBounds_toArray,List.set_cons_zero,List.set_cons_succ]
       refine tkUs (fun _ _ _ _ h => h) hS [(7,32),(8,33),(9,34),(10,35),(11,36),(12,37),(13,38),(14,39),(15,40)] 11 rfl (by kernel_rfl) ?_
       simp only [skipL,skipP,Act.put,List.setIfInBounds_toArray,List.set_cons_zero,List.set_cons_succ]
       refine' tkE 16 41 hS ?_ ?_; rotate_left
       ·intro W' hSW; go_simp; (try with_reducible rfl)
       refine' tkE 17 42 hS ?_ ?_; rotate_left
       ·intro W' hSW; go_simp; (try with_reducible rfl)
       refine' tkE 18 43 hS ?_ ?_; rotate_left
       ·intro W' hSW; go_simp; (try with_reducible rfl)
       refine' tkE 19 44 hS ?_ ?_; rotate_left
       ·intro W' hSW; go_simp; (try with_reducible rfl)
       refine' tkE 20 45 hS ?_ ?_; rotate_left
       ·intro W' hSW; go_simp; (try with_reducible rfl)
       simp only [Act.put,List.setIfInBounds_toArray,List.set_cons_zero,List.set_cons_succ]
       refine tkUs (fun _ _ _ _ h => h) hS [(21,46),(22,47),(23,48),(24,49)] 2 rfl (by kernel_rfl) ?_
       simp only [skipL,skipP,Act.put,List.setIfInBounds_toArray,List.set_cons_zero,List.set_cons_succ]
       refine' tkE 25 50 hS ?_ ?_; rotate_left
       ·intro W' hSW; go_simp; (try with_reducible rfl)
       refine' tkE 26 51 hS ?_ ?_; rotate_left
       ·intro W' hSW; go_simp; (try with_reducible rfl)
       simp only [Act.put,List.setIfInBounds_toArray,List.set_cons_zero,List.set_cons_succ]
       refine wpAnyH_done (by kernel_rfl) ?_ _
       have HS2:=Aside0.mk (HB2.out.drew.trans (hS.mono HB2.out.drew.size))
       have hMI2:=HMI.out.later (below_drew (Below.refl _ _) |>.trans hS)
       have hXB2:=blk_below (blk_drew HXB.out) hS
       obtain ⟨k0,k1,k2,k3⟩:=cells4 hXB2
       have hS' : Aside0 (stepsB [] (l.take (i + 1)) = true):=⟨HST.out.trans hyes.out⟩
       have htk : Aside0 (l.take (i + 1) = l.take i ++ [x]):=⟨by rw [List.take_succ_eq_append_getElem hlt,HXI.out]⟩
       have hwi : IntKind.i64.wrap ((i : Int) + 1) = ((i + 1 : Nat) : Int):=by rw [wrap_small _ (by omega) (by omega)]; omega
       clear hTh
       by_cases hk1 : x.f1 = 1
       ·have hkb : (x.f1 == 1) = true:=by simp [hk1]
        have hle:=cntD_le (l.take i) x.f0
        have hll : (l.take i).length ≤ 1024:=by rw [List.length_take]; omega
        have hq1:=hMI2.lookup x.f0 (Nat.le_trans HSZ.out (by decide))
        obtain ⟨w5,hq2,hMI5,hg5⟩:=hMI2.update x.f0 (Nat.le_trans HSZ.out (by decide)) (cntD (l.take i) x.f0 + 1) (by simp [Lit.wf,IntKind.min,IntKind.max,IntKind.signed,IntKind.bits]; omega) (by unfold maxLen; omega)
        have hw2 : IntKind.i64.wrap (cntD (l.take i) x.f0 + 1) = cntD (l.take i) x.f0 + 1:=wrap64_same (by omega) (by omega)
        have HM5 : Aside0 (MapI w5 w.heap.size (i + 1) (cntD (l.take (i + 1)))):=⟨by
         rw [htk.out,show cntD (l.take i ++ [x]) = fun t => if t = x.f0 then cntD (l.take i) x.f0 + 1 else cntD (l.take i) t from by funext t; rw [cntD_snoc]; simp [hk1]]
         exact hMI5⟩
        have HB5 : Aside0 (Below w.heap.size w w5):=⟨Below.grown HS2.out hg5 HS2.out.size (fun k hk => by have:=Option.some.inj hk; omega)⟩
        have HK1:=Aside0.mk hk1
        clear hMI2 hMI5 hg5 hle hll hk1 hXB2
        go_wp2
        go_roundg (l.length - (i + 1))
        case measure => omega
        case rel => exact ⟨i + 1,by first | rfl | (rw [hwi]),by omega,HB5,HM5,hS'⟩
       ·have hkb : (x.f1 == 1) = false:=by simp [hk1]
        have HM5 : Aside0 (MapI W2 w.heap.size (i + 1) (cntD (l.take (i + 1)))):=⟨by
         rw [htk.out,show cntD (l.take i ++ [x]) = cntD (l.take i) from by funext t; rw [cntD_snoc]; simp [hk1]]
         exact hMI2.mono (by omega)⟩
        have HK1:=Aside0.mk hk1
        clear hMI2 hk1 hXB2
        go_wp2
        go_roundg (l.length - (i + 1))
        case measure => omega
        case rel => exact ⟨i + 1,by first | rfl | (rw [hwi]),by omega,HS2,HM5,hS'⟩
      | some up =>
       have HUP : Aside0 (up.size ≤ 1000000000000):=⟨by have h1:=parentV_size HPV.out; have h2:=HSZ.out; omega⟩
       have hcz:=cntD_zero (l.take i) up
       have hcl:=cntD_le (l.take i) up
       obtain ⟨cc,hcc⟩ : ∃ cc,cntD (l.take i) up = cc:=⟨_,rfl⟩
       rw [hcc] at hcz hcl
       have HCC:=Aside0.mk hcc
       clear hcc
       obtain ⟨db,hdb2⟩ : ∃ db,dirB (l.take i) up = db:=⟨_,rfl⟩
       rw [hdb2] at hcz
       have HDB:=Aside0.mk hdb2
       clear hdb2
       cases db with
       | false =>
        have hno : Aside0 (T = false):=⟨by
         rw [← HT.out]
         refine steps_false (i:=i + 1) ?_
         rw [HST.out,show l.take i = [] from by rw [HI0.out]; rfl,next_first,HTH.out,Bool.true_and,HPV.out]
         exact (by have h:=HDB.out; rw [show l.take i = [] from by rw [HI0.out]; rfl] at h; exact h)⟩
        replace hcz : (cc == 0) = true:=hcz
        refine wp_region_held_drew (S:=Below wr2.drew.heap.size wr2.drew) (by kernel_rfl) (Below.refl _ _) (fun hS => ?_)
        refine' tkE 0 25 hS ?_ ?_; rotate_left
        ·intro W' hSW; obtain ⟨k0,k1,k2,k3⟩:=cells4 (blk_below (blk_drew HXB.out) hSW); go_simp; (try with_reducible rfl)
        simp only [Act.put,List.setIfInBounds_toArray,List.set_cons_zero,List.set_cons_succ]
        refine wpAnyH_ready (rs:=[1]) (by kernel_rfl) (by simp) (AllReadyH.cons rfl (fun K hK => ?_) AllReadyH.nil)
        go_simp
        refine (hTh _ hS).mono ?_
        rintro e W2 ⟨rfl,hb⟩
        have hS:=hS.trans (hb.mono hS.size)
        clear hb
        refine hK.out _ _ hS (fun _ => ?_)
        clear hK K
        refine' tkE 2 27 hS ?_ ?_; rotate_left
        ·intro W' hSW; go_simp; (try with_reducible rfl)
        refine' tkE 3 28 hS ?_ ?_; rotate_left
        ·intro W' hSW; go_simp; (try with_reducible rfl)
        refine' tkE 4 29 hS ?_ ?_; rotate_left
        ·intro W' hSW; go_simp; (try with_reducible rfl)
        refine' tkE 5 30 hS ?_ ?_; rotate_left
        ·intro W' hSW; go_simp; (try with_reducible rfl)
        refine' tkE 6 31 hS ?_ ?_; rotate_left
        ·intro W' hSW; go_simp; (try with_reducible rfl)
        simp only [Act.put,List.setIfInBounds_toArray,List.set_cons_zero,List.set_cons_succ]
        refine tkUs (fun _ _ _ _ h => h) hS [(7,32),(8,33),(9,34),(10,35),(11,36),(12,37),(13,38),(14,39),(15,40)] 11 rfl (by kernel_rfl) ?_
        simp only [skipL,skipP,Act.put,List.setIfInBounds_toArray,List.set_cons_zero,List.set_cons_succ]
        refine' tkE 16 41 hS ?_ ?_; rotate_left
        ·intro W' hSW; go_simp; (try with_reducible rfl)
        refine' tkE 17 42 hS ?_ ?_; rotate_left
        ·intro W' hSW; go_simp; (try with_reducible rfl)
        refine' tkE 18 43 hS ?_ ?_; rotate_left
        ·intro W' hSW; go_simp; (try with_reducible rfl)
        refine' tkE 19 44 hS ?_ ?_; rotate_left
        ·intro W' hSW; go_simp; (try with_reducible rfl)
        refine' tkE 20 45 hS ?_ ?_; rotate_left
        ·intro W' hSW; go_simp; (try with_reducible rfl)
        refine' tkE 21 46 hS ?_ ?_; rotate_left
        ·intro W' hSW; go_simp; (try with_reducible rfl)
        refine' tkE 22 47 hS ?_ ?_; rotate_left
        ·intro W' hSW; go_simp; (try with_reducible rfl)
        refine' tkE 23 48 hS ?_ ?_; rotate_left
        ·intro W' hSW; have q1:=(HMI.out.later ((below_drew (Below.refl _ _)).trans hSW)).lookup up (Nat.le_trans HUP.out (by decide)); rw [HCC.out] at q1; go_simp; (try with_reducible rfl)
        refine' tkE 24 49 hS ?_ ?_; rotate_left
        ·intro W' hSW; go_simp; (try with_reducible rfl)
        refine' tkE 25 50 hS ?_ ?_; rotate_left
        ·intro W' hSW; go_simp; (try with_reducible rfl)
        refine' tkE 26 51 hS ?_ ?_; rotate_left
        ·intro W' hSW; go_simp; (try with_reducible rfl)
        simp only [Act.put,List.setIfInBounds_toArray,List.set_cons_zero,List.set_cons_succ]
        refine wpAnyH_done (by kernel_rfl) ?_ _
        go_wp2
        go_ret
        exact ⟨by rw [hno.out]; rfl,HB2.out.drew.trans (hS.mono HB2.out.drew.size)⟩
       | true =>
        have hyes : Aside0 (nextB (l.take i) x = true):=⟨by rw [show l.take i = [] from by rw [HI0.out]; rfl,next_first,HTH.out,Bool.true_and,HPV.out]; exact (by have h:=HDB.out; rw [show l.take i = [] from by rw [HI0.out]; rfl] at h; exact h)⟩
        replace hcz : (cc == 0) = false:=hcz
        refine wp_region_held_drew (S:=Below wr2.drew.heap.size wr2.drew) (by kernel_rfl) (Below.refl _ _) (fun hS => ?_)
        refine' tkE 0 25 hS ?_ ?_; rotate_left
        ·intro W' hSW; obtain ⟨k0,k1,k2,k3⟩:=cells4 (blk_below (blk_drew HXB.out) hSW); go_simp; (try with_reducible rfl)
        simp only [Act.put,List.setIfInBounds_toArray,List.set_cons_zero,List.set_cons_succ]
        refine wpAnyH_ready (rs:=[1]) (by kernel_rfl) (by simp) (AllReadyH.cons rfl (fun K hK => ?_) AllReadyH.nil)
        go_simp
        refine (hTh _ hS).mono ?_
        rintro e W2 ⟨rfl,hb⟩
        have hS:=hS.trans (hb.mono hS.size)
        clear hb
        refine hK.out _ _ hS (fun _ => ?_)
        clear hK K
        refine' tkE 2 27 hS ?_ ?_; rotate_left
        ·intro W' hSW; go_simp; (try with_reducible rfl)
        refine' tkE 3 28 hS ?_ ?_; rotate_left
        ·intro W' hSW; go_simp; (try with_reducible rfl)
        refine' tkE 4 29 hS ?_ ?_; rotate_left
        ·intro W' hSW; go_simp; (try with_reducible rfl)
        refine' tkE 5 30 hS ?_ ?_; rotate_left
        ·intro W' hSW; go_simp; (try with_reducible rfl)
        refine' tkE 6 31 hS ?_ ?_; rotate_left
        ·intro W' hSW; go_simp; (try with_reducible rfl)
        simp only [Act.put,List.setIfInBounds_toArray,List.set_cons_zero,List.set_cons_succ]
        refine tkUs (fun _ _ _ _ h => h) hS [(7,32),(8,33),(9,34),(10,35),(11,36),(12,37),(13,38),(14,39),(15,40)] 11 rfl (by kernel_rfl) ?_
        simp only [skipL,skipP,Act.put,List.setIfInBounds_toArray,List.set_cons_zero,List.set_cons_succ]
        refine' tkE 16 41 hS ?_ ?_; rotate_left
        ·intro W' hSW; go_simp; (try with_reducible rfl)
        refine' tkE 17 42 hS ?_ ?_; rotate_left
        ·intro W' hSW; go_simp; (try with_reducible rfl)
        refine' tkE 18 43 hS ?_ ?_; rotate_left
        ·intro W' hSW; go_simp; (try with_reducible rfl)
        refine' tkE 19 44 hS ?_ ?_; rotate_left
        ·intro W' hSW; go_simp; (try with_reducible rfl)
        refine' tkE 20 45 hS ?_ ?_; rotate_left
        ·intro W' hSW; go_simp; (try with_reducible rfl)
        refine' tkE 21 46 hS ?_ ?_; rotate_left
        ·intro W' hSW; go_simp; (try with_reducible rfl)
        refine' tkE 22 47 hS ?_ ?_; rotate_left
        ·intro W' hSW; go_simp; (try with_reducible rfl)
        refine' tkE 23 48 hS ?_ ?_; rotate_left
        ·intro W' hSW; have q1:=(HMI.out.later ((below_drew (Below.refl _ _)).trans hSW)).lookup up (Nat.le_trans HUP.out (by decide)); rw [HCC.out] at q1; go_simp; (try with_reducible rfl)
        refine' tkE 24 49 hS ?_ ?_; rotate_left
        ·intro W' hSW; go_simp; (try with_reducible rfl)
        refine' tkE 25 50 hS ?_ ?_; rotate_left
        ·intro W' hSW; go_simp; (try with_reducible rfl)
        refine' tkE 26 51 hS ?_ ?_; rotate_left
        ·intro W' hSW; go_simp; (try with_reducible rfl)
        simp only [Act.put,List.setIfInBounds_toArray,List.set_cons_zero,List.set_cons_succ]
        refine wpAnyH_done (by kernel_rfl) ?_ _
        have HS2:=Aside0.mk (HB2.out.drew.trans (hS.mono HB2.out.drew.size))
        have hMI2:=HMI.out.later (below_drew (Below.refl _ _) |>.trans hS)
        have hXB2:=blk_below (blk_drew HXB.out) hS
        obtain ⟨k0,k1,k2,k3⟩:=cells4 hXB2
        have hS' : Aside0 (stepsB [] (l.take (i + 1)) = true):=⟨HST.out.trans hyes.out⟩
        have htk : Aside0 (l.take (i + 1) = l.take i ++ [x]):=⟨by rw [List.take_succ_eq_append_getElem hlt,HXI.out]⟩
        have hwi : IntKind.i64.wrap ((i : Int) + 1) = ((i + 1 : Nat) : Int):=by rw [wrap_small _ (by omega) (by omega)]; omega
        clear hTh
        by_cases hk1 : x.f1 = 1
        ·have hkb : (x.f1 == 1) = true:=by simp [hk1]
         have hle:=cntD_le (l.take i) x.f0
         have hll : (l.take i).length ≤ 1024:=by rw [List.length_take]; omega
         have hq1:=hMI2.lookup x.f0 (Nat.le_trans HSZ.out (by decide))
         obtain ⟨w5,hq2,hMI5,hg5⟩:=hMI2.update x.f0 (Nat.le_trans HSZ.out (by decide)) (cntD (l.take i) x.f0 + 1) (by simp [Lit.wf,IntKind.min,IntKind.max,IntKind.signed,IntKind.bits]; omega) (by unfold maxLen; omega)
         have hw2 : IntKind.i64.wrap (cntD (l.take i) x.f0 + 1) = cntD (l.take i) x.f0 + 1:=wrap64_same (by omega) (by omega)
         have HM5 : Aside0 (MapI w5 w.heap.size (i + 1) (cntD (l.take (i + 1)))):=⟨by
          rw [htk.out,show cntD (l.take i ++ [x]) = fun t => if t = x.f0 then cntD (l.take i) x.f0 + 1 else cntD (l.take i) t from by funext t; rw [cntD_snoc]; simp [hk1]]
          exact hMI5⟩
         have HB5 : Aside0 (Below w.heap.size w w5):=⟨Below.grown HS2.out hg5 HS2.out.size (fun k hk => by have:=Option.some.inj hk; omega)⟩
         have HK1:=Aside0.mk hk1
         clear hMI2 hMI5 hg5 hle hll hk1 hXB2
         go_wp2
         go_roundg (l.length - (i + 1))
         case measure => omega
         case rel => exact ⟨i + 1,by first | rfl | (rw [hwi]),by omega,HB5,HM5,hS'⟩
        ·have hkb : (x.f1 == 1) = false:=by simp [hk1]
         have HM5 : Aside0 (MapI W2 w.heap.size (i + 1) (cntD (l.take (i + 1)))):=⟨by
          rw [htk.out,show cntD (l.take i ++ [x]) = cntD (l.take i) from by funext t; rw [cntD_snoc]; simp [hk1]]
          exact hMI2.mono (by omega)⟩
         have HK1:=Aside0.mk hk1
         clear hMI2 hk1 hXB2
         go_wp2
         go_roundg (l.length - (i + 1))
         case measure => omega
         case rel => exact ⟨i + 1,by first | rfl | (rw [hwi]),by omega,HS2,HM5,hS'⟩
     ·have hgt : decide ((0 : Int) < (i : Int)) = true:=decide_eq_true (by omega)
      have hgt2 : decide (0 < i) = true:=decide_eq_true hpos
      have hgt3 : (0 < i) = True:=eq_true hpos
      have hwm : IntKind.i64.wrap ((i : Int) - 1) = (i : Int) - 1:=wrap64_same (by omega) (by omega)
      have hm0 : (0 : Int) ≤ (i : Int) - 1:=by omega
      have hm1 : (i : Int) - 1 < (l.length : Int):=by omega
      obtain ⟨ad',X',d',he',rx',pc,-,-,-⟩:=ent_at (Kd.C_below HR.out (B1.out.trans (HW2B.out.mono B1.out.size))) (i - 1) (by omega) rfl
      injection he' with he'
      subst he'
      obtain ⟨y,hy⟩ : ∃ y,l.getD (i - 1) z41 = y:=⟨_,rfl⟩
      rw [hy] at rx' pc
      have pc:=Aside0.mk pc
      have h1i : (1 : Int) ≤ (i : Int):=by omega
      have HNX : Aside0 (nextB (l.take i) x = (ltP y.f0 x.f0 && (match parentV x.f0 with | none => true | some p => dirB (l.take i) p))):=⟨by rw [next_later l i hpos (by omega),hy,HTH.out,Bool.true_and]⟩
      obtain ⟨lt,hlt2⟩ : ∃ lt,ltP y.f0 x.f0 = lt:=⟨_,rfl⟩
      have hbl : Op.bytesLess y.f0.toList x.f0.toList = lt:=hlt2
      have HLT:=Aside0.mk hlt2
      clear hy rx' hpos hlt2
      cases lt with
      | false =>
       have hno : Aside0 (T = false):=⟨by
        rw [← HT.out]
        refine steps_false (i:=i + 1) ?_
        rw [HST.out,HNX.out,HLT.out,Bool.false_and]⟩
       refine wp_region_held_drew (S:=Below wr2.drew.heap.size wr2.drew) (by kernel_rfl) (Below.refl _ _) (fun hS => ?_)
       refine' tkE 0 25 hS ?_ ?_; rotate_left
       ·intro W' hSW; obtain ⟨k0,k1,k2,k3⟩:=cells4 (blk_below (blk_drew HXB.out) hSW); go_simp; (try with_reducible rfl)
       simp only [Act.put,List.setIfInBounds_toArray,List.set_cons_zero,List.set_cons_succ]
       refine wpAnyH_ready (rs:=[1]) (by kernel_rfl) (by simp) (AllReadyH.cons rfl (fun K hK => ?_) AllReadyH.nil)
       go_simp
       refine (hTh _ hS).mono ?_
       rintro e W2 ⟨rfl,hb⟩
       have hS:=hS.trans (hb.mono hS.size)
       clear hb
       refine hK.out _ _ hS (fun _ => ?_)
       clear hK K
       refine' tkE 2 27 hS ?_ ?_; rotate_left
       ·intro W' hSW; go_simp; (try with_reducible rfl)
       refine' tkE 3 28 hS ?_ ?_; rotate_left
       ·intro W' hSW; go_simp; (try with_reducible rfl)
       refine' tkE 4 29 hS ?_ ?_; rotate_left
       ·intro W' hSW; go_simp; (try with_reducible rfl)
       refine' tkE 5 30 hS ?_ ?_; rotate_left
       ·intro W' hSW; go_simp; (try with_reducible rfl)
       refine' tkE 6 31 hS ?_ ?_; rotate_left
       ·intro W' hSW; go_simp; (try with_reducible rfl)
       refine' tkE 7 32 hS ?_ ?_; rotate_left
       ·intro W' hSW; go_simp; (try with_reducible rfl)
       refine' tkE 8 33 hS ?_ ?_; rotate_left
       ·intro W' hSW; go_simp; (try with_reducible rfl)
       refine' tkE 9 34 hS ?_ ?_; rotate_left
       ·intro W' hSW; go_simp; (try with_reducible rfl)
       refine' tkE 10 35 hS ?_ ?_; rotate_left
       ·intro W' hSW; go_simp; (try with_reducible rfl)
       refine' tkE 11 36 hS ?_ ?_; rotate_left
       ·intro W' hSW; go_simp; (try with_reducible rfl)
       refine' tkE 12 37 hS ?_ ?_; rotate_left
       ·intro W' hSW; have q0:=pw_cell_below hSW (pc.out); go_simp; (try with_reducible rfl)
       refine' tkE 13 38 hS ?_ ?_; rotate_left
       ·intro W' hSW; go_simp; (try with_reducible rfl)
       refine' tkE 14 39 hS ?_ ?_; rotate_left
       ·intro W' hSW; obtain ⟨k0,k1,k2,k3⟩:=cells4 (blk_below (blk_drew HXB.out) hSW); go_simp; (try with_reducible rfl)
       refine' tkE 15 40 hS ?_ ?_; rotate_left
       ·intro W' hSW; go_simp; (try with_reducible rfl)
       refine' tkE 16 41 hS ?_ ?_; rotate_left
       ·intro W' hSW; go_simp; (try with_reducible rfl)
       refine' tkE 17 42 hS ?_ ?_; rotate_left
       ·intro W' hSW; go_simp; (try with_reducible rfl)
       refine' tkE 18 43 hS ?_ ?_; rotate_left
       ·intro W' hSW; go_simp; (try with_reducible rfl)
       simp only [Act.put,List.setIfInBounds_toArray,List.set_cons_zero,List.set_cons_succ]
       refine tkUs (fun _ _ _ _ h => h) hS [(19,44),(20,45),(21,46),(22,47),(23,48),(24,49),(25,50)] 1 rfl (by kernel_rfl) ?_
       simp only [skipL,skipP,Act.put,List.setIfInBounds_toArray,List.set_cons_zero,List.set_cons_succ]
       refine' tkE 26 51 hS ?_ ?_; rotate_left
       ·intro W' hSW; go_simp; (try with_reducible rfl)
       simp only [Act.put,List.setIfInBounds_toArray,List.set_cons_zero,List.set_cons_succ]
       refine wpAnyH_done (by kernel_rfl) ?_ _
       go_wp2
       go_ret
       exact ⟨by rw [hno.out]; rfl,HB2.out.drew.trans (hS.mono HB2.out.drew.size)⟩
      | true =>
       cases up with
       | none =>
        have hyes : Aside0 (nextB (l.take i) x = true):=⟨by rw [HNX.out,HLT.out,Bool.true_and,HPV.out]⟩
        refine wp_region_held_drew (S:=Below wr2.drew.heap.size wr2.drew) (by kernel_rfl) (Below.refl _ _) (fun hS => ?_)
        refine' tkE 0 25 hS ?_ ?_; rotate_left
        ·intro W' hSW; obtain ⟨k0,k1,k2,k3⟩:=cells4 (blk_below (blk_drew HXB.out) hSW); go_simp; (try with_reducible rfl)
        simp only [Act.put,List.setIfInBounds_toArray,List.set_cons_zero,List.set_cons_succ]
        refine wpAnyH_ready (rs:=[1]) (by kernel_rfl) (by simp) (AllReadyH.cons rfl (fun K hK => ?_) AllReadyH.nil)
        go_simp
        refine (hTh _ hS).mono ?_
        rintro e W2 ⟨rfl,hb⟩
        have hS:=hS.trans (hb.mono hS.size)
        clear hb
        refine hK.out _ _ hS (fun _ => ?_)
        clear hK K
        refine' tkE 2 27 hS ?_ ?_; rotate_left
        ·intro W' hSW; go_simp; (try with_reducible rfl)
        refine' tkE 3 28 hS ?_ ?_; rotate_left
        ·intro W' hSW; go_simp; (try with_reducible rfl)
        refine' tkE 4 29 hS ?_ ?_; rotate_left
        ·intro W' hSW; go_simp; (try with_reducible rfl)
        refine' tkE 5 30 hS ?_ ?_; rotate_left
        ·intro W' hSW; go_simp; (try with_reducible rfl)
        refine' tkE 6 31 hS ?_ ?_; rotate_left
        ·intro W' hSW; go_simp; (try with_reducible rfl)
        refine' tkE 7 32 hS ?_ ?_; rotate_left
        ·intro W' hSW; go_simp; (try with_reducible rfl)
        refine' tkE 8 33 hS ?_ ?_; rotate_left
        ·intro W' hSW; go_simp; (try with_reducible rfl)
        refine' tkE 9 34 hS ?_ ?_; rotate_left
        ·intro W' hSW; go_simp; (try with_reducible rfl)
        refine' tkE 10 35 hS ?_ ?_; rotate_left
        ·intro W' hSW; go_simp; (try with_reducible rfl)
        refine' tkE 11 36 hS ?_ ?_; rotate_left
        ·intro W' hSW; go_simp; (try with_reducible rfl)
        refine' tkE 12 37 hS ?_ ?_; rotate_left
        ·intro W' hSW; have q0:=pw_cell_below hSW (pc.out); go_simp; (try with_reducible rfl)
        refine' tkE 13 38 hS ?_ ?_; rotate_left
        ·intro W' hSW; go_simp; (try with_reducible rfl)
        refine' tkE 14 39 hS ?_ ?_; rotate_left
        ·intro W' hSW; obtain ⟨k0,k1,k2,k3⟩:=cells4 (blk_below (blk_drew HXB.out) hSW); go_simp; (try with_reducible rfl)
        refine' tkE 15 40 hS ?_ ?_; rotate_left
        ·intro W' hSW; go_simp; (try with_reducible rfl)
        refine' tkE 16 41 hS ?_ ?_; rotate_left
        ·intro W' hSW; go_simp; (try with_reducible rfl)
        refine' tkE 17 42 hS ?_ ?_; rotate_left
        ·intro W' hSW; go_simp; (try with_reducible rfl)
        refine' tkE 18 43 hS ?_ ?_; rotate_left
        ·intro W' hSW; go_simp; (try with_reducible rfl)
        refine' tkE 19 44 hS ?_ ?_; rotate_left
        ·intro W' hSW; go_simp; (try with_reducible rfl)
        refine' tkE 20 45 hS ?_ ?_; rotate_left
        ·intro W' hSW; go_simp; (try with_reducible rfl)
        simp only [Act.put,List.setIfInBounds_toArray,List.set_cons_zero,List.set_cons_succ]
        refine tkUs (fun _ _ _ _ h => h) hS [(21,46),(22,47),(23,48),(24,49)] 2 rfl (by kernel_rfl) ?_
        simp only [skipL,skipP,Act.put,List.setIfInBounds_toArray,List.set_cons_zero,List.set_cons_succ]
        refine' tkE 25 50 hS ?_ ?_; rotate_left
        ·intro W' hSW; go_simp; (try with_reducible rfl)
        refine' tkE 26 51 hS ?_ ?_; rotate_left
        ·intro W' hSW; go_simp; (try with_reducible rfl)
        simp only [Act.put,List.setIfInBounds_toArray,List.set_cons_zero,List.set_cons_succ]
        refine wpAnyH_done (by kernel_rfl) ?_ _
        have HS2:=Aside0.mk (HB2.out.drew.trans (hS.mono HB2.out.drew.size))
        have hMI2:=HMI.out.later (below_drew (Below.refl _ _) |>.trans hS)
        have hXB2:=blk_below (blk_drew HXB.out) hS
        obtain ⟨k0,k1,k2,k3⟩:=cells4 hXB2
        have hS' : Aside0 (stepsB [] (l.take (i + 1)) = true):=⟨HST.out.trans hyes.out⟩
        have htk : Aside0 (l.take (i + 1) = l.take i ++ [x]):=⟨by rw [List.take_succ_eq_append_getElem hlt,HXI.out]⟩
        have hwi : IntKind.i64.wrap ((i : Int) + 1) = ((i + 1 : Nat) : Int):=by rw [wrap_small _ (by omega) (by omega)]; omega
        clear hTh
        by_cases hk1 : x.f1 = 1
        ·have hkb : (x.f1 == 1) = true:=by simp [hk1]
         have hle:=cntD_le (l.take i) x.f0
         have hll : (l.take i).length ≤ 1024:=by rw [List.length_take]; omega
         have hq1:=hMI2.lookup x.f0 (Nat.le_trans HSZ.out (by decide))
         obtain ⟨w5,hq2,hMI5,hg5⟩:=hMI2.update x.f0 (Nat.le_trans HSZ.out (by decide)) (cntD (l.take i) x.f0 + 1) (by simp [Lit.wf,IntKind.min,IntKind.max,IntKind.signed,IntKind.bits]; omega) (by unfold maxLen; omega)
         have hw2 : IntKind.i64.wrap (cntD (l.take i) x.f0 + 1) = cntD (l.take i) x.f0 + 1:=wrap64_same (by omega) (by omega)
         have HM5 : Aside0 (MapI w5 w.heap.size (i + 1) (cntD (l.take (i + 1)))):=⟨by
          rw [htk.out,show cntD (l.take i ++ [x]) = fun t => if t = x.f0 then cntD (l.take i) x.f0 + 1 else cntD (l.take i) t from by funext t; rw [cntD_snoc]; simp [hk1]]
          exact hMI5⟩
         have HB5 : Aside0 (Below w.heap.size w w5):=⟨Below.grown HS2.out hg5 HS2.out.size (fun k hk => by have:=Option.some.inj hk; omega)⟩
         have HK1:=Aside0.mk hk1
         clear hMI2 hMI5 hg5 hle hll hk1 hXB2
         go_wp2
         go_roundg (l.length - (i + 1))
         case measure => omega
         case rel => exact ⟨i + 1,by first | rfl | (rw [hwi]),by omega,HB5,HM5,hS'⟩
        ·have hkb : (x.f1 == 1) = false:=by simp [hk1]
         have HM5 : Aside0 (MapI W2 w.heap.size (i + 1) (cntD (l.take (i + 1)))):=⟨by
          rw [htk.out,show cntD (l.take i ++ [x]) = cntD (l.take i) from by funext t; rw [cntD_snoc]; simp [hk1]]
          exact hMI2.mono (by omega)⟩
         have HK1:=Aside0.mk hk1
         clear hMI2 hk1 hXB2
         go_wp2
         go_roundg (l.length - (i + 1))
         case measure => omega
         case rel => exact ⟨i + 1,by first | rfl | (rw [hwi]),by omega,HS2,HM5,hS'⟩
       | some up =>
        have HUP : Aside0 (up.size ≤ 1000000000000):=⟨by have h1:=parentV_size HPV.out; have h2:=HSZ.out; omega⟩
        have hcz:=cntD_zero (l.take i) up
        have hcl:=cntD_le (l.take i) up
        obtain ⟨cc,hcc⟩ : ∃ cc,cntD (l.take i) up = cc:=⟨_,rfl⟩
        rw [hcc] at hcz hcl
        have HCC:=Aside0.mk hcc
        clear hcc
        obtain ⟨db,hdb2⟩ : ∃ db,dirB (l.take i) up = db:=⟨_,rfl⟩
        rw [hdb2] at hcz
        have HDB:=Aside0.mk hdb2
        clear hdb2
        cases db with
        | false =>
         have hno : Aside0 (T = false):=⟨by
          rw [← HT.out]
          refine steps_false (i:=i + 1) ?_
          rw [HST.out,HNX.out,HLT.out,Bool.true_and,HPV.out]
          exact HDB.out⟩
         replace hcz : (cc == 0) = true:=hcz
         refine wp_region_held_drew (S:=Below wr2.drew.heap.size wr2.drew) (by kernel_rfl) (Below.refl _ _) (fun hS => ?_)
         refine' tkE 0 25 hS ?_ ?_; rotate_left
         ·intro W' hSW; obtain ⟨k0,k1,k2,k3⟩:=cells4 (blk_below (blk_drew HXB.out) hSW); go_simp; (try with_reducible rfl)
         simp only [Act.put,List.setIfInBounds_toArray,List.set_cons_zero,List.set_cons_succ]
         refine wpAnyH_ready (rs:=[1]) (by kernel_rfl) (by simp) (AllReadyH.cons rfl (fun K hK => ?_) AllReadyH.nil)
         go_simp
         refine (hTh _ hS).mono ?_
         rintro e W2 ⟨rfl,hb⟩
         have hS:=hS.trans (hb.mono hS.size)
         clear hb
         refine hK.out _ _ hS (fun _ => ?_)
         clear hK K
         refine' tkE 2 27 hS ?_ ?_; rotate_left
         ·intro W' hSW; go_simp; (try with_reducible rfl)
         refine' tkE 3 28 hS ?_ ?_; rotate_left
         ·intro W' hSW; go_simp; (try with_reducible rfl)
         refine' tkE 4 29 hS ?_ ?_; rotate_left
         ·intro W' hSW; go_simp; (try with_reducible rfl)
         refine' tkE 5 30 hS ?_ ?_; rotate_left
         ·intro W' hSW; go_simp; (try with_reducible rfl)
         refine' tkE 6 31 hS ?_ ?_; rotate_left
         ·intro W' hSW; go_simp; (try with_reducible rfl)
         refine' tkE 7 32 hS ?_ ?_; rotate_left
         ·intro W' hSW; go_simp; (try with_reducible rfl)
         refine' tkE 8 33 hS ?_ ?_; rotate_left
         ·intro W' hSW; go_simp; (try with_reducible rfl)
         refine' tkE 9 34 hS ?_ ?_; rotate_left
         ·intro W' hSW; go_simp; (try with_reducible rfl)
         refine' tkE 10 35 hS ?_ ?_; rotate_left
         ·intro W' hSW; go_simp; (try with_reducible rfl)
         refine' tkE 11 36 hS ?_ ?_; rotate_left
         ·intro W' hSW; go_simp; (try with_reducible rfl)
         refine' tkE 12 37 hS ?_ ?_; rotate_left
         ·intro W' hSW; have q0:=pw_cell_below hSW (pc.out); go_simp; (try with_reducible rfl)
         refine' tkE 13 38 hS ?_ ?_; rotate_left
         ·intro W' hSW; go_simp; (try with_reducible rfl)
         refine' tkE 14 39 hS ?_ ?_; rotate_left
         ·intro W' hSW; obtain ⟨k0,k1,k2,k3⟩:=cells4 (blk_below (blk_drew HXB.out) hSW); go_simp; (try with_reducible rfl)
         refine' tkE 15 40 hS ?_ ?_; rotate_left
         ·intro W' hSW; go_simp; (try with_reducible rfl)
         refine' tkE 16 41 hS ?_ ?_; rotate_left
         ·intro W' hSW; go_simp; (try with_reducible rfl)
         refine' tkE 17 42 hS ?_ ?_; rotate_left
         ·intro W' hSW; go_simp; (try with_reducible rfl)
         refine' tkE 18 43 hS ?_ ?_; rotate_left
         ·intro W' hSW; go_simp; (try with_reducible rfl)
         refine' tkE 19 44 hS ?_ ?_; rotate_left
         ·intro W' hSW; go_simp; (try with_reducible rfl)
         refine' tkE 20 45 hS ?_ ?_; rotate_left
         ·intro W' hSW; go_simp; (try with_reducible rfl)
         refine' tkE 21 46 hS ?_ ?_; rotate_left
         ·intro W' hSW; go_simp; (try with_reducible rfl)
         refine' tkE 22 47 hS ?_ ?_; rotate_left
         ·intro W' hSW; go_simp; (try with_reducible rfl)
         refine' tkE 23 48 hS ?_ ?_; rotate_left
         ·intro W' hSW; have q1:=(HMI.out.later ((below_drew (Below.refl _ _)).trans hSW)).lookup up (Nat.le_trans HUP.out (by decide)); rw [HCC.out] at q1; go_simp; (try with_reducible rfl)
         refine' tkE 24 49 hS ?_ ?_; rotate_left
         ·intro W' hSW; go_simp; (try with_reducible rfl)
         refine' tkE 25 50 hS ?_ ?_; rotate_left
         ·intro W' hSW; go_simp; (try with_reducible rfl)
         refine' tkE 26 51 hS ?_ ?_; rotate_left
         ·intro W' hSW; go_simp; (try with_reducible rfl)
         simp only [Act.put,List.setIfInBounds_toArray,List.set_cons_zero,List.set_cons_succ]
         refine wpAnyH_done (by kernel_rfl) ?_ _
         go_wp2
         go_ret
         exact ⟨by rw [hno.out]; rfl,HB2.out.drew.trans (hS.mono HB2.out.drew.size)⟩
        | true =>
         have hyes : Aside0 (nextB (l.take i) x = true):=⟨by rw [HNX.out,HLT.out,Bool.true_and,HPV.out]; exact HDB.out⟩
         replace hcz : (cc == 0) = false:=hcz
         refine wp_region_held_drew (S:=Below wr2.drew.heap.size wr2.drew) (by kernel_rfl) (Below.refl _ _) (fun hS => ?_)
         refine' tkE 0 25 hS ?_ ?_; rotate_left
         ·intro W' hSW; obtain ⟨k0,k1,k2,k3⟩:=cells4 (blk_below (blk_drew HXB.out) hSW); go_simp; (try with_reducible rfl)
         simp only [Act.put,List.setIfInBounds_toArray,List.set_cons_zero,List.set_cons_succ]
         refine wpAnyH_ready (rs:=[1]) (by kernel_rfl) (by simp) (AllReadyH.cons rfl (fun K hK => ?_) AllReadyH.nil)
         go_simp
         refine (hTh _ hS).mono ?_
         rintro e W2 ⟨rfl,hb⟩
         have hS:=hS.trans (hb.mono hS.size)
         clear hb
         refine hK.out _ _ hS (fun _ => ?_)
         clear hK K
         refine' tkE 2 27 hS ?_ ?_; rotate_left
         ·intro W' hSW; go_simp; (try with_reducible rfl)
         refine' tkE 3 28 hS ?_ ?_; rotate_left
         ·intro W' hSW; go_simp; (try with_reducible rfl)
         refine' tkE 4 29 hS ?_ ?_; rotate_left
         ·intro W' hSW; go_simp; (try with_reducible rfl)
         refine' tkE 5 30 hS ?_ ?_; rotate_left
         ·intro W' hSW; go_simp; (try with_reducible rfl)
         refine' tkE 6 31 hS ?_ ?_; rotate_left
         ·intro W' hSW; go_simp; (try with_reducible rfl)
         refine' tkE 7 32 hS ?_ ?_; rotate_left
         ·intro W' hSW; go_simp; (try with_reducible rfl)
         refine' tkE 8 33 hS ?_ ?_; rotate_left
         ·intro W' hSW; go_simp; (try with_reducible rfl)
         refine' tkE 9 34 hS ?_ ?_; rotate_left
         ·intro W' hSW; go_simp; (try with_reducible rfl)
         refine' tkE 10 35 hS ?_ ?_; rotate_left
         ·intro W' hSW; go_simp; (try with_reducible rfl)
         refine' tkE 11 36 hS ?_ ?_; rotate_left
         ·intro W' hSW; go_simp; (try with_reducible rfl)
         refine' tkE 12 37 hS ?_ ?_; rotate_left
         ·intro W' hSW; have q0:=pw_cell_below hSW (pc.out); go_simp; (try with_reducible rfl)
         refine' tkE 13 38 hS ?_ ?_; rotate_left
         ·intro W' hSW; go_simp; (try with_reducible rfl)
         refine' tkE 14 39 hS ?_ ?_; rotate_left
         ·intro W' hSW; obtain ⟨k0,k1,k2,k3⟩:=cells4 (blk_below (blk_drew HXB.out) hSW); go_simp; (try with_reducible rfl)
         refine' tkE 15 40 hS ?_ ?_; rotate_left
         ·intro W' hSW; go_simp; (try with_reducible rfl)
         refine' tkE 16 41 hS ?_ ?_; rotate_left
         ·intro W' hSW; go_simp; (try with_reducible rfl)
         refine' tkE 17 42 hS ?_ ?_; rotate_left
         ·intro W' hSW; go_simp; (try with_reducible rfl)
         refine' tkE 18 43 hS ?_ ?_; rotate_left
         ·intro W' hSW; go_simp; (try with_reducible rfl)
         refine' tkE 19 44 hS ?_ ?_; rotate_left
         ·intro W' hSW; go_simp; (try with_reducible rfl)
         refine' tkE 20 45 hS ?_ ?_; rotate_left
         ·intro W' hSW; go_simp; (try with_reducible rfl)
         refine' tkE 21 46 hS ?_ ?_; rotate_left
         ·intro W' hSW; go_simp; (try with_reducible rfl)
         refine' tkE 22 47 hS ?_ ?_; rotate_left
         ·intro W' hSW; go_simp; (try with_reducible rfl)
         refine' tkE 23 48 hS ?_ ?_; rotate_left
         ·intro W' hSW; have q1:=(HMI.out.later ((below_drew (Below.refl _ _)).trans hSW)).lookup up (Nat.le_trans HUP.out (by decide)); rw [HCC.out] at q1; go_simp; (try with_reducible rfl)
         refine' tkE 24 49 hS ?_ ?_; rotate_left
         ·intro W' hSW; go_simp; (try with_reducible rfl)
         refine' tkE 25 50 hS ?_ ?_; rotate_left
         ·intro W' hSW; go_simp; (try with_reducible rfl)
         refine' tkE 26 51 hS ?_ ?_; rotate_left
         ·intro W' hSW; go_simp; (try with_reducible rfl)
         simp only [Act.put,List.setIfInBounds_toArray,List.set_cons_zero,List.set_cons_succ]
         refine wpAnyH_done (by kernel_rfl) ?_ _
         have HS2:=Aside0.mk (HB2.out.drew.trans (hS.mono HB2.out.drew.size))
         have hMI2:=HMI.out.later (below_drew (Below.refl _ _) |>.trans hS)
         have hXB2:=blk_below (blk_drew HXB.out) hS
         obtain ⟨k0,k1,k2,k3⟩:=cells4 hXB2
         have hS' : Aside0 (stepsB [] (l.take (i + 1)) = true):=⟨HST.out.trans hyes.out⟩
         have htk : Aside0 (l.take (i + 1) = l.take i ++ [x]):=⟨by rw [List.take_succ_eq_append_getElem hlt,HXI.out]⟩
         have hwi : IntKind.i64.wrap ((i : Int) + 1) = ((i + 1 : Nat) : Int):=by rw [wrap_small _ (by omega) (by omega)]; omega
         clear hTh
         by_cases hk1 : x.f1 = 1
         ·have hkb : (x.f1 == 1) = true:=by simp [hk1]
          have hle:=cntD_le (l.take i) x.f0
          have hll : (l.take i).length ≤ 1024:=by rw [List.length_take]; omega
          have hq1:=hMI2.lookup x.f0 (Nat.le_trans HSZ.out (by decide))
          obtain ⟨w5,hq2,hMI5,hg5⟩:=hMI2.update x.f0 (Nat.le_trans HSZ.out (by decide)) (cntD (l.take i) x.f0 + 1) (by simp [Lit.wf,IntKind.min,IntKind.max,IntKind.signed,IntKind.bits]; omega) (by unfold maxLen; omega)
          have hw2 : IntKind.i64.wrap (cntD (l.take i) x.f0 + 1) = cntD (l.take i) x.f0 + 1:=wrap64_same (by omega) (by omega)
          have HM5 : Aside0 (MapI w5 w.heap.size (i + 1) (cntD (l.take (i + 1)))):=⟨by
           rw [htk.out,show cntD (l.take i ++ [x]) = fun t => if t = x.f0 then cntD (l.take i) x.f0 + 1 else cntD (l.take i) t from by funext t; rw [cntD_snoc]; simp [hk1]]
           exact hMI5⟩
          have HB5 : Aside0 (Below w.heap.size w w5):=⟨Below.grown HS2.out hg5 HS2.out.size (fun k hk => by have:=Option.some.inj hk; omega)⟩
          have HK1:=Aside0.mk hk1
          clear hMI2 hMI5 hg5 hle hll hk1 hXB2
          go_wp2
          go_roundg (l.length - (i + 1))
          case measure => omega
          case rel => exact ⟨i + 1,by first | rfl | (rw [hwi]),by omega,HB5,HM5,hS'⟩
         ·have hkb : (x.f1 == 1) = false:=by simp [hk1]
          have HM5 : Aside0 (MapI W2 w.heap.size (i + 1) (cntD (l.take (i + 1)))):=⟨by
           rw [htk.out,show cntD (l.take i ++ [x]) = cntD (l.take i) from by funext t; rw [cntD_snoc]; simp [hk1]]
           exact hMI2.mono (by omega)⟩
          have HK1:=Aside0.mk hk1
          clear hMI2 hk1 hXB2
          go_wp2
          go_roundg (l.length - (i + 1))
          case measure => omega
          case rel => exact ⟨i + 1,by first | rfl | (rw [hwi]),by omega,HS2,HM5,hS'⟩
   ·have hie : i = l.length:=by omega
    have hdb : decide ((i : Int) < (l.length : Int)) = false:=decide_eq_false (by omega)
    have hTt : Aside0 (T = true):=⟨by rw [← HT.out,← S1.out,hie,List.take_length]⟩
    go_wp2
    go_ret
    exact ⟨by rw [hTt.out]; rfl,B1.out⟩
 ·have hb1 : decide ((1024 : Int) < (l.length : Int)) = true:=decide_eq_true (by omega)
  have ht : treeB l = false:=by unfold treeB; rw [decide_eq_false hbig,Bool.false_and]
  rw [ht]
  clear ht
  go_enter Tryz.func51,Tryz.ntmps51
  go_wp2
  go_ret
  exact ⟨rfl,Below.refl _ _⟩
structure Fit (l : List S41) : Prop where
 s : ∀ x ∈ l,x.f0.size ≤ 1000000000000
 n : ∀ x ∈ l,x.f2.length ≤ 1000000000
 t : ∀ x ∈ l,∀ s ∈ x.f2,s.size ≤ 1000000000
structure FitP (p : S25) : Prop where
 ok : Okp p
 n5 : p.f5.length ≤ 1000000000
 n6 : p.f6.length ≤ 1000000000
 t2 : p.f2.size ≤ 100000
theorem primRight_at (p : S25) (hp : Okp p) (A5 : Option Addr) (c5 : Nat) (A6 : Option Addr) (c6 : Nat) (w : World) (g5 : Kd.string.C w A5 p.f5.length p.f5) (l5 : p.f5.length ≤ c5) (g6 : Kd.string.C w A6 p.f6.length p.f6) (l6 : p.f6.length ≤ c6) :
  Calls Tryz.prog 25 #[.agg #[.int .i64 p.f0,.string p.f1,.string p.f2,.string p.f3,.int .i64 p.f4,.slice A5 p.f5.length c5,.slice A6 p.f6.length c6]] w fun e w' => e = .returned (.bool (primB p)) ∧ Below w.heap.size w w':=by
 obtain ⟨K,hK⟩:=prim_right p hp
 exact prim_Right.calls K _ _ _ _ _ A5 c5 _ A6 c6 _ _ w g5 l5 g6 l6 (hK K (Nat.le_refl _))
theorem prim_kind {p : S25} (h : primB p = true) : 1 ≤ p.f0 ∧ p.f0 ≤ 10:=by
 unfold primB at h
 rw [Bool.and_eq_true] at h
 have hk:=h.2
 unfold kindB at hk
 by_cases h8 : p.f0 = 8
 ·omega
 rw [if_neg h8] at hk
 by_cases h9 : p.f0 = 9
 ·omega
 rw [if_neg h9] at hk
 split at hk
 ·by_cases h10 : p.f0 = 10
  ·omega
  rw [if_neg h10] at hk
  by_cases h7 : p.f0 = 7
  ·omega
  rw [if_neg h7] at hk
  simp only [Bool.and_eq_true,decide_eq_true_eq] at hk
  omega
 ·cases hk
def DoesH (k : Int) (B7 B8 B9 : Nat) (l : List S41) (A : Option Addr) (c : Nat) (pv : Value) (w : World) (Q : Ending → World → Prop) : Prop :=
 (k = 1 ∨ k = 3 ∨ k = 5 → Calls Tryz.prog 52 #[.slice A l.length c,pv] w Q) ∧ (k = 2 ∨ k = 4 ∨ k = 6 → Calls Tryz.prog 53 #[.slice A l.length c,pv] w Q) ∧
 (k = 7 → Calls Tryz.prog 100 #[.slice A l.length c,pv,.pointer (some ⟨B7,0,none⟩)] w Q) ∧ (k = 8 → Calls Tryz.prog 100 #[.slice A l.length c,pv,.pointer (some ⟨B8,0,none⟩)] w Q) ∧
 (k = 9 → Calls Tryz.prog 100 #[.slice A l.length c,pv,.pointer (some ⟨B9,0,none⟩)] w Q) ∧ (k = 10 → Calls Tryz.prog 58 #[.slice A l.length c,pv] w Q)
theorem does_at (l : List S41) (A : Option Addr) (c : Nat) (p : S25) (A5 : Option Addr) (c5 : Nat) (A6 : Option Addr) (c6 : Nat) (w : World) (B7 B8 B9 : Nat) (hr : Kd.C k41 w A l.length l)
  (g5 : Kd.string.C w A5 p.f5.length p.f5) (l5 : p.f5.length ≤ c5) (g6 : Kd.string.C w A6 p.f6.length p.f6) (l6 : p.f6.length ≤ c6) (hf : Fit l) (hp : FitP p) (ht : treeB l = true) (hq : primB p = true)
  (h7 : w.heap[B7]? = some (.cells #[.func (.func 55) #[] #[]] 76 (0,0))) (h8 : w.heap[B8]? = some (.cells #[.func (.func 56) #[] #[]] 76 (0,0))) (h9 : w.heap[B9]? = some (.cells #[.func (.func 57) #[] #[]] 76 (0,0))) :
  DoesH p.f0 B7 B8 B9 l A c (.agg #[.int .i64 p.f0,.string p.f1,.string p.f2,.string p.f3,.int .i64 p.f4,.slice A5 p.f5.length c5,.slice A6 p.f6.length c6]) w (Ans w (doL l p) (doE l p)):=by
 have hT:=tree_iff.1 ht
 have hs:=hT.s
 have hl : l.length ≤ 1000000000:=by have:=hT.n; omega
 have h1 : p.f1.size ≤ 1000000000000:=Nat.le_trans (right_size (prim_path hq)) (by decide)
 have fm : ∀ {x : S41},findV l p.f1 = some x → x ∈ l:=fun h => (find_mem h).1
 refine ⟨fun hk => ?_,fun hk => ?_,fun hk => ?_,fun hk => ?_,fun hk => ?_,fun hk => ?_⟩
 ·have e1 : doL l p = insL l (newE p):=by unfold doL; rw [if_neg (by omega),if_neg (by omega),if_pos hk]
  have e2 : doE l p = addE l p:=by unfold doE; rw [if_neg (by omega),if_neg (by omega),if_pos hk]
  rw [e1,e2]
  exact add_at l A c p _ _ w rfl rfl hr hl hs (by omega) (by omega) h1
 ·have e1 : doL l p = delL l p.f1:=by unfold doL; rw [if_neg (by omega),if_neg (by omega),if_neg (by omega)]
  have e2 : doE l p = removeE l p.f1 p.f0:=by unfold doE; rw [if_neg (by omega),if_neg (by omega),if_neg (by omega)]
  rw [e1,e2]
  exact remove_at l A c p.f0 p.f1 _ _ _ _ _ w rfl rfl rfl rfl rfl hr hl hs (by omega) (by omega)
 ·have e1 : doL l p = changeL l p:=by unfold doL; rw [if_neg (by omega),if_pos (by omega)]
  have e2 : doE l p = changeE l p:=by unfold doE; rw [if_neg (by omega),if_pos (by omega)]
  rw [e1,e2]
  obtain ⟨_,_,a0,a1,_⟩:=prim_lines hq hk
  refine changing55_at l A c p _ _ B7 w rfl rfl hr hl hs (by omega) (by omega) h7 ?_
  intro u x X d g o cur W hx hkx hu hW hg0 hg hent hre
  exact hunk_at u p A5 c5 A6 c6 x X d g o cur W hk a0 a1 (Kd.C_below g5 hu) l5 (Kd.C_below g6 hu) l6 hp.n5 hp.n6 (hf.n _ (fm hx)) hW hg0 hg hent hre
 ·have e1 : doL l p = changeL l p:=by unfold doL; rw [if_neg (by omega),if_pos (by omega)]
  have e2 : doE l p = changeE l p:=by unfold doE; rw [if_neg (by omega),if_pos (by omega)]
  rw [e1,e2]
  refine changing56_at l A c p _ _ B8 w rfl rfl hr hl hs (by omega) (by omega) h8 ?_
  intro u x X d g o cur W hx hkx hu hW hg0 hg hent hre
  exact token_at u p _ _ x X d g o cur W rfl rfl hk (prim_token hq hk).1 hp.t2 (hf.n _ (fm hx)) (hf.t _ (fm hx)) hW hg0 hg hent hre
 ·have e1 : doL l p = changeL l p:=by unfold doL; rw [if_neg (by omega),if_pos (by omega)]
  have e2 : doE l p = changeE l p:=by unfold doE; rw [if_neg (by omega),if_pos (by omega)]
  rw [e1,e2]
  refine changing57_at l A c p _ _ B9 w rfl rfl hr hl hs (by omega) (by omega) h9 ?_
  intro u x X d g o cur W hx hkx hu hW hg0 hg hent hre
  exact data_at u p _ _ x X d g o cur W rfl rfl hk hW hg0 hg hent hre
 ·have e1 : doL l p = moveL l p:=by unfold doL; rw [if_pos hk]
  have e2 : doE l p = moveE l p:=by unfold doE; rw [if_pos hk]
  rw [e1,e2]
  exact move_at l A c p _ _ w rfl rfl hr hT hq hk
theorem ans_calls {f : Nat} {args : Array Value} {w u : World} {M : List S41} {E : Int} (h : Calls Tryz.prog f args w (Ans u M E)) :
  Calls Tryz.prog f args w fun e w' => ∃ S,e = .returned (.tuple #[S,.int .i64 E]) ∧ Ans u M E (.returned (.tuple #[S,.int .i64 E])) w':=by
 refine h.mono ?_
 intro e w' ha
 obtain ⟨hb,hi⟩:=ha
 by_cases hE : E = 0
 ·rw [if_pos hE] at hi
  obtain ⟨A,c,rfl,hl,hC⟩:=hi
  exact ⟨_,by rw [hE],hb,by rw [if_pos hE]; exact ⟨A,c,by rw [hE],hl,hC⟩⟩
 ·rw [if_neg hE] at hi
  exact ⟨_,hi,hb,by rw [if_neg hE]⟩
def tableV (v7 v8 v9 : Value) : Array Value:=#[.nilFunc,.func (.func 52) #[] #[],.func (.func 53) #[] #[],.func (.func 52) #[] #[],.func (.func 53) #[] #[],.func (.func 52) #[] #[],.func (.func 53) #[] #[],v7,v8,v9,.func (.func 58) #[] #[]]
theorem table_stores (w : World) (b7 b8 b9 : Nat) : (storeCells ⟨w.heap.size,0,none⟩ (tableV (.func (.func 100) #[] #[.pointer (some ⟨b7,0,none⟩)]) (.func (.func 100) #[] #[.pointer (some ⟨b8,0,none⟩)]) (.func (.func 100) #[] #[.pointer (some ⟨b9,0,none⟩)])).toList).run Tryz.prog
  (w.alloc (.cells #[.nilFunc,.nilFunc,.nilFunc,.nilFunc,.nilFunc,.nilFunc,.nilFunc,.nilFunc,.nilFunc,.nilFunc,.nilFunc] 77)) =
  .ok () (w.alloc (.cells (tableV (.func (.func 100) #[] #[.pointer (some ⟨b7,0,none⟩)]) (.func (.func 100) #[] #[.pointer (some ⟨b8,0,none⟩)]) (.func (.func 100) #[] #[.pointer (some ⟨b9,0,none⟩)])) 77)) :=
 run_storeCells_new w 77 _ _ (by kernel_rfl) rfl (by simp [tableV,Value.oneCell'])
set_option maxHeartbeats 4000000 in
set_option maxRecDepth 1000000 in
theorem apply_at (l : List S41) (A : Option Addr) (c : Nat) (p : S25) (A5 : Option Addr) (c5 : Nat) (A6 : Option Addr) (c6 : Nat) (w : World) (hr : Kd.C k41 w A l.length l)
  (g5 : Kd.string.C w A5 p.f5.length p.f5) (l5 : p.f5.length ≤ c5) (g6 : Kd.string.C w A6 p.f6.length p.f6) (l6 : p.f6.length ≤ c6) (hf : Fit l) (hp : FitP p) :
  Calls Tryz.prog 23 #[.slice A l.length c,.agg #[.int .i64 p.f0,.string p.f1,.string p.f2,.string p.f3,.int .i64 p.f4,.slice A5 p.f5.length c5,.slice A6 p.f6.length c6]] w (Ans w (doL l p) (applyE l p)):=by
 obtain ⟨W,hW⟩ : ∃ W,W = w.alloc (.cells #[.int .i64 p.f0,.string p.f1,.string p.f2,.string p.f3,.int .i64 p.f4,.slice A5 p.f5.length c5,.slice A6 p.f6.length c6] 25):=⟨_,rfl⟩
 have hB : Below w.heap.size w W:=by rw [hW]; exact below_alloc (Below.refl _ _) _
 obtain ⟨b0,b1,b2,b3,b4,b5,b6⟩:=cells7 (show W.heap[w.heap.size]? = _ by rw [hW]; exact blk_new w (.cells #[.int .i64 p.f0,.string p.f1,.string p.f2,.string p.f3,.int .i64 p.f4,.slice A5 p.f5.length c5,.slice A6 p.f6.length c6] 25))
 have hT:=tree_at l A c W (Kd.C_below hr hB) hf.s
 have hP:=fun U (h : Below w.heap.size w U) => primRight_at p hp.ok A5 c5 A6 c6 U (Kd.C_below g5 h) l5 (Kd.C_below g6 h) l6
 obtain ⟨t,ht⟩ : ∃ t,treeB l = t:=⟨_,rfl⟩
 obtain ⟨q,hq⟩ : ∃ q,primB p = q:=⟨_,rfl⟩
 rw [ht] at hT
 rw [hq] at hP
 have hno : ∀ U,(t && q) = false → Below w.heap.size w U → Ans w (doL l p) (applyE l p) (.returned (.tuple #[.slice none 0 0,.int .i64 1])) U:=by
  intro U h hb
  have e : applyE l p = 1:=by unfold applyE; rw [ht,hq,h]; rfl
  refine ⟨hb,?_⟩
  rw [e,if_neg (by decide)]
 have HT:=Aside0.mk hT
 have HP:=Aside0.mk hP
 have HNO:=Aside0.mk hno
 have HB:=Aside0.mk hB
 have HR:=Aside0.mk hr
 have G5:=Aside0.mk g5
 have G6:=Aside0.mk g6
 have L5:=Aside0.mk l5
 have L6:=Aside0.mk l6
 have HF:=Aside0.mk hf
 have HPP:=Aside0.mk hp
 have HTR:=Aside0.mk ht
 have HQR:=Aside0.mk hq
 clear hT hP hno hB hr g5 l5 g6 l6 hf hp ht hq
 cases t with
 | false =>
  go_enter Tryz.func23,Tryz.ntmps23
  rw [hW] at HT HB
  go_wp2_with (go_at_call 51; refine HT.out.mono ?_; rintro e w1 ⟨rfl,hb1⟩)
  go_ret2
  exact HNO.out _ rfl (HB.out.trans (hb1.mono HB.out.size))
 | true =>
  subst hW
  cases q with
  | false =>
   go_enter Tryz.func23,Tryz.ntmps23
   go_wp2_with (first
    | (go_at_call 51; refine HT.out.mono ?_; rintro e w1 ⟨rfl,hb1⟩; have d0:=pw_cell_below hb1 b0; have d1:=pw_cell_below hb1 b1; have d2:=pw_cell_below hb1 b2; have d3:=pw_cell_below hb1 b3; have d4:=pw_cell_below hb1 b4; have d5:=pw_cell_below hb1 b5; have d6:=pw_cell_below hb1 b6)
    | (go_at_call 25; refine (HP.out _ (HB.out.trans (hb1.mono HB.out.size))).mono ?_; rintro e w2 ⟨rfl,hb2⟩))
   go_ret2
   exact HNO.out _ rfl ((HB.out.trans (hb1.mono HB.out.size)).trans (hb2.mono (HB.out.trans (hb1.mono HB.out.size)).size))
  | true =>
   go_enter Tryz.func23,Tryz.ntmps23
   go_wp2_with (first
    | (go_at_call 51; refine HT.out.mono ?_; rintro e w1 ⟨rfl,hb1⟩; have d0:=pw_cell_below hb1 b0; have d1:=pw_cell_below hb1 b1; have d2:=pw_cell_below hb1 b2; have d3:=pw_cell_below hb1 b3; have d4:=pw_cell_below hb1 b4; have d5:=pw_cell_below hb1 b5; have d6:=pw_cell_below hb1 b6)
    | (go_at_call 25; refine (HP.out _ (HB.out.trans (hb1.mono HB.out.size))).mono ?_; rintro e w2 ⟨rfl,hb2⟩; replace d0:=pw_cell_below hb2 d0; replace d1:=pw_cell_below hb2 d1; replace d2:=pw_cell_below hb2 d2; replace d3:=pw_cell_below hb2 d3; replace d4:=pw_cell_below hb2 d4; replace d5:=pw_cell_below hb2 d5; replace d6:=pw_cell_below hb2 d6)
    | (go_at_call 54; refine (changing_calls 55 _).mono ?_; rintro e w7 ⟨rfl,k7,hb7⟩)
    | (go_at_call 54; refine (changing_calls 56 _).mono ?_; rintro e w8 ⟨rfl,k8,hb8⟩)
    | (go_at_call 54; refine (changing_calls 57 _).mono ?_; rintro e w9 ⟨rfl,k9,hb9⟩))
   have hst:=table_stores w9 w2.heap.size w7.heap.size w8.heap.size
   simp [tableV,storeCells,Addr.add,go_sem] at hst
   rw [hst]
   simp only [Result.andThen]
   rw [Oper.upon_skip]
   clear hst
   have hBw9 : Below w2.heap.size w2 w9:=(hb7.trans (hb8.mono hb7.size)).trans (hb9.mono (hb7.trans (hb8.mono hb7.size)).size)
   have k7':=blk_below (blk_below k7 hb8) hb9
   have k8':=blk_below k8 hb9
   obtain ⟨TV,hTV⟩ : ∃ TV,TV = tableV (.func (.func 100) #[] #[.pointer (some ⟨w2.heap.size,0,none⟩)]) (.func (.func 100) #[] #[.pointer (some ⟨w7.heap.size,0,none⟩)]) (.func (.func 100) #[] #[.pointer (some ⟨w8.heap.size,0,none⟩)]):=⟨_,rfl⟩
   unfold tableV at hTV
   rw [← hTV]
   obtain ⟨V,hV⟩ : ∃ V,V = w9.alloc (.cells TV 77):=⟨_,rfl⟩
   rw [← hV]
   have hBV : Below w2.heap.size w2 V:=by rw [hV]; exact below_alloc hBw9 _
   have kT : V.heap[w9.heap.size]? = some (.cells TV 77 (0,0)):=by rw [hV]; exact blk_new w9 (.cells TV 77)
   have k7V : V.heap[w2.heap.size]? = some (.cells #[.func (.func 55) #[] #[]] 76 (0,0)):=by rw [hV]; exact blk_alloc k7' _
   have k8V : V.heap[w7.heap.size]? = some (.cells #[.func (.func 56) #[] #[]] 76 (0,0)):=by rw [hV]; exact blk_alloc k8' _
   have k9V : V.heap[w8.heap.size]? = some (.cells #[.func (.func 57) #[] #[]] 76 (0,0)):=by rw [hV]; exact blk_alloc k9 _
   have hBw2 : Below w.heap.size w w2:=(HB.out.trans (hb1.mono HB.out.size)).trans (hb2.mono (HB.out.trans (hb1.mono HB.out.size)).size)
   have HBV : Aside0 (Below w.heap.size w V):=⟨hBw2.trans (hBV.mono hBw2.size)⟩
   replace d0:=pw_cell_below hBV d0
   replace d1:=pw_cell_below hBV d1
   replace d2:=pw_cell_below hBV d2
   replace d3:=pw_cell_below hBV d3
   replace d4:=pw_cell_below hBV d4
   replace d5:=pw_cell_below hBV d5
   replace d6:=pw_cell_below hBV d6
   have hk0:=prim_kind HQR.out
   have hbd:=below_drew HBV.out
   have hdo:=does_at l A c p A5 c5 A6 c6 V.drew w2.heap.size w7.heap.size w8.heap.size (Kd.C_below HR.out hbd) (Kd.C_below G5.out hbd) L5.out (Kd.C_below G6.out hbd) L6.out HF.out HPP.out HTR.out HQR.out (blk_drew k7V) (blk_drew k8V) (blk_drew k9V)
   have happ : Aside0 (applyE l p = doE l p):=⟨by unfold applyE; rw [HTR.out,HQR.out]; rfl⟩
   obtain ⟨D,hD⟩ : ∃ D,D = w9.heap.size:=⟨_,rfl⟩
   rw [← hD] at kT ⊢
   obtain ⟨B7,hB7⟩ : ∃ B7,B7 = w2.heap.size:=⟨_,rfl⟩
   obtain ⟨B8,hB8⟩ : ∃ B8,B8 = w7.heap.size:=⟨_,rfl⟩
   obtain ⟨B9,hB9⟩ : ∃ B9,B9 = w8.heap.size:=⟨_,rfl⟩
   rw [← hB7,← hB8,← hB9] at hTV hdo
   have hfin : Aside0 (∀ S w',Ans V.drew (doL l p) (doE l p) (.returned (.tuple #[S,.int .i64 (doE l p)])) w' → Ans w (doL l p) (applyE l p) (.returned (.tuple #[S,.int .i64 (doE l p)])) w'):=⟨fun S w' h => by
    rw [happ.out]
    exact ⟨(below_drew HBV.out).trans (h.1.mono HBV.out.size),h.2⟩⟩
   obtain ⟨E,hE⟩ : ∃ E,doE l p = E:=⟨_,rfl⟩
   rw [hE] at hdo hfin
   have hTc : ∀ j v,TV[j]? = some v → V.cell? ⟨D,j,none⟩ = some v:=fun j v h => (Lib.cell_of_heap kT j).trans h
   have hkk : p.f0 = 1 ∨ p.f0 = 2 ∨ p.f0 = 3 ∨ p.f0 = 4 ∨ p.f0 = 5 ∨ p.f0 = 6 ∨ p.f0 = 7 ∨ p.f0 = 8 ∨ p.f0 = 9 ∨ p.f0 = 10:=by omega
   replace hBV:=Aside0.mk hBV
   replace hTV:=Aside0.mk hTV
   clear hbd b0 b1 b2 b3 b4 b5 b6 hk0 kT k7V k8V k9V k7' k8' k7 k8 k9 hBw9 hBw2 hb1 hb2 hb7 hb8 hb9 hV hD hB7 hB8 hB9 happ hE HT HP HNO
   rcases hkk with hk | hk | hk | hk | hk | hk | hk | hk | hk | hk
   ·rw [hk] at d0 hdo
    have hC:=hdo.1 (.inl rfl)
    have tc:=hTc 1 _ (by rw [hTV.out]; rfl)
    clear hdo hTc hk
    go_upto_region 4 with (fail)
    go_region_held3 (fun U => U.cell? ⟨w.heap.size,0,none⟩ = some (.int .i64 1) ∧ U.cell? ⟨w.heap.size,1,none⟩ = some (.string p.f1) ∧ U.cell? ⟨w.heap.size,2,none⟩ = some (.string p.f2) ∧ U.cell? ⟨w.heap.size,3,none⟩ = some (.string p.f3) ∧ U.cell? ⟨w.heap.size,4,none⟩ = some (.int .i64 p.f4) ∧ U.cell? ⟨w.heap.size,5,none⟩ = some (.slice A5 p.f5.length c5) ∧ U.cell? ⟨w.heap.size,6,none⟩ = some (.slice A6 p.f6.length c6) ∧ U.cell? ⟨D,1,none⟩ = some (.func (.func 52) #[] #[])) (first | exact ⟨d0,d1,d2,d3,d4,d5,d6,tc⟩ | exact ⟨pw_cell_below hb d0,pw_cell_below hb d1,pw_cell_below hb d2,pw_cell_below hb d3,pw_cell_below hb d4,pw_cell_below hb d5,pw_cell_below hb d6,pw_cell_below hb tc⟩) ((go_at_call 52; refine (ans_calls hC).mono ?_; rintro e w3 ⟨S,rfl,hans⟩; have hb:=hans.1; replace hans:=Aside0.mk hans))
    all_goals go_wp2
    all_goals go_ret2
    all_goals exact hfin.out _ _ hans.out
   ·rw [hk] at d0 hdo
    have hC:=hdo.2.1 (.inl rfl)
    have tc:=hTc 2 _ (by rw [hTV.out]; rfl)
    clear hdo hTc hk
    go_upto_region 4 with (fail)
    go_region_held3 (fun U => U.cell? ⟨w.heap.size,0,none⟩ = some (.int .i64 2) ∧ U.cell? ⟨w.heap.size,1,none⟩ = some (.string p.f1) ∧ U.cell? ⟨w.heap.size,2,none⟩ = some (.string p.f2) ∧ U.cell? ⟨w.heap.size,3,none⟩ = some (.string p.f3) ∧ U.cell? ⟨w.heap.size,4,none⟩ = some (.int .i64 p.f4) ∧ U.cell? ⟨w.heap.size,5,none⟩ = some (.slice A5 p.f5.length c5) ∧ U.cell? ⟨w.heap.size,6,none⟩ = some (.slice A6 p.f6.length c6) ∧ U.cell? ⟨D,2,none⟩ = some (.func (.func 53) #[] #[])) (first | exact ⟨d0,d1,d2,d3,d4,d5,d6,tc⟩ | exact ⟨pw_cell_below hb d0,pw_cell_below hb d1,pw_cell_below hb d2,pw_cell_below hb d3,pw_cell_below hb d4,pw_cell_below hb d5,pw_cell_below hb d6,pw_cell_below hb tc⟩) ((go_at_call 53; refine (ans_calls hC).mono ?_; rintro e w3 ⟨S,rfl,hans⟩; have hb:=hans.1; replace hans:=Aside0.mk hans))
    all_goals go_wp2
    all_goals go_ret2
    all_goals exact hfin.out _ _ hans.out
   ·rw [hk] at d0 hdo
    have hC:=hdo.1 (.inr (.inl rfl))
    have tc:=hTc 3 _ (by rw [hTV.out]; rfl)
    clear hdo hTc hk
    go_upto_region 4 with (fail)
    go_region_held3 (fun U => U.cell? ⟨w.heap.size,0,none⟩ = some (.int .i64 3) ∧ U.cell? ⟨w.heap.size,1,none⟩ = some (.string p.f1) ∧ U.cell? ⟨w.heap.size,2,none⟩ = some (.string p.f2) ∧ U.cell? ⟨w.heap.size,3,none⟩ = some (.string p.f3) ∧ U.cell? ⟨w.heap.size,4,none⟩ = some (.int .i64 p.f4) ∧ U.cell? ⟨w.heap.size,5,none⟩ = some (.slice A5 p.f5.length c5) ∧ U.cell? ⟨w.heap.size,6,none⟩ = some (.slice A6 p.f6.length c6) ∧ U.cell? ⟨D,3,none⟩ = some (.func (.func 52) #[] #[])) (first | exact ⟨d0,d1,d2,d3,d4,d5,d6,tc⟩ | exact ⟨pw_cell_below hb d0,pw_cell_below hb d1,pw_cell_below hb d2,pw_cell_below hb d3,pw_cell_below hb d4,pw_cell_below hb d5,pw_cell_below hb d6,pw_cell_below hb tc⟩) ((go_at_call 52; refine (ans_calls hC).mono ?_; rintro e w3 ⟨S,rfl,hans⟩; have hb:=hans.1; replace hans:=Aside0.mk hans))
    all_goals go_wp2
    all_goals go_ret2
    all_goals exact hfin.out _ _ hans.out
   ·rw [hk] at d0 hdo
    have hC:=hdo.2.1 (.inr (.inl rfl))
    have tc:=hTc 4 _ (by rw [hTV.out]; rfl)
    clear hdo hTc hk
    go_upto_region 4 with (fail)
    go_region_held3 (fun U => U.cell? ⟨w.heap.size,0,none⟩ = some (.int .i64 4) ∧ U.cell? ⟨w.heap.size,1,none⟩ = some (.string p.f1) ∧ U.cell? ⟨w.heap.size,2,none⟩ = some (.string p.f2) ∧ U.cell? ⟨w.heap.size,3,none⟩ = some (.string p.f3) ∧ U.cell? ⟨w.heap.size,4,none⟩ = some (.int .i64 p.f4) ∧ U.cell? ⟨w.heap.size,5,none⟩ = some (.slice A5 p.f5.length c5) ∧ U.cell? ⟨w.heap.size,6,none⟩ = some (.slice A6 p.f6.length c6) ∧ U.cell? ⟨D,4,none⟩ = some (.func (.func 53) #[] #[])) (first | exact ⟨d0,d1,d2,d3,d4,d5,d6,tc⟩ | exact ⟨pw_cell_below hb d0,pw_cell_below hb d1,pw_cell_below hb d2,pw_cell_below hb d3,pw_cell_below hb d4,pw_cell_below hb d5,pw_cell_below hb d6,pw_cell_below hb tc⟩) ((go_at_call 53; refine (ans_calls hC).mono ?_; rintro e w3 ⟨S,rfl,hans⟩; have hb:=hans.1; replace hans:=Aside0.mk hans))
    all_goals go_wp2
    all_goals go_ret2
    all_goals exact hfin.out _ _ hans.out
   ·rw [hk] at d0 hdo
    have hC:=hdo.1 (.inr (.inr rfl))
    have tc:=hTc 5 _ (by rw [hTV.out]; rfl)
    clear hdo hTc hk
    go_upto_region 4 with (fail)
    go_region_held3 (fun U => U.cell? ⟨w.heap.size,0,none⟩ = some (.int .i64 5) ∧ U.cell? ⟨w.heap.size,1,none⟩ = some (.string p.f1) ∧ U.cell? ⟨w.heap.size,2,none⟩ = some (.string p.f2) ∧ U.cell? ⟨w.heap.size,3,none⟩ = some (.string p.f3) ∧ U.cell? ⟨w.heap.size,4,none⟩ = some (.int .i64 p.f4) ∧ U.cell? ⟨w.heap.size,5,none⟩ = some (.slice A5 p.f5.length c5) ∧ U.cell? ⟨w.heap.size,6,none⟩ = some (.slice A6 p.f6.length c6) ∧ U.cell? ⟨D,5,none⟩ = some (.func (.func 52) #[] #[])) (first | exact ⟨d0,d1,d2,d3,d4,d5,d6,tc⟩ | exact ⟨pw_cell_below hb d0,pw_cell_below hb d1,pw_cell_below hb d2,pw_cell_below hb d3,pw_cell_below hb d4,pw_cell_below hb d5,pw_cell_below hb d6,pw_cell_below hb tc⟩) ((go_at_call 52; refine (ans_calls hC).mono ?_; rintro e w3 ⟨S,rfl,hans⟩; have hb:=hans.1; replace hans:=Aside0.mk hans))
    all_goals go_wp2
    all_goals go_ret2
    all_goals exact hfin.out _ _ hans.out
   ·rw [hk] at d0 hdo
    have hC:=hdo.2.1 (.inr (.inr rfl))
    have tc:=hTc 6 _ (by rw [hTV.out]; rfl)
    clear hdo hTc hk
    go_upto_region 4 with (fail)
    go_region_held3 (fun U => U.cell? ⟨w.heap.size,0,none⟩ = some (.int .i64 6) ∧ U.cell? ⟨w.heap.size,1,none⟩ = some (.string p.f1) ∧ U.cell? ⟨w.heap.size,2,none⟩ = some (.string p.f2) ∧ U.cell? ⟨w.heap.size,3,none⟩ = some (.string p.f3) ∧ U.cell? ⟨w.heap.size,4,none⟩ = some (.int .i64 p.f4) ∧ U.cell? ⟨w.heap.size,5,none⟩ = some (.slice A5 p.f5.length c5) ∧ U.cell? ⟨w.heap.size,6,none⟩ = some (.slice A6 p.f6.length c6) ∧ U.cell? ⟨D,6,none⟩ = some (.func (.func 53) #[] #[])) (first | exact ⟨d0,d1,d2,d3,d4,d5,d6,tc⟩ | exact ⟨pw_cell_below hb d0,pw_cell_below hb d1,pw_cell_below hb d2,pw_cell_below hb d3,pw_cell_below hb d4,pw_cell_below hb d5,pw_cell_below hb d6,pw_cell_below hb tc⟩) ((go_at_call 53; refine (ans_calls hC).mono ?_; rintro e w3 ⟨S,rfl,hans⟩; have hb:=hans.1; replace hans:=Aside0.mk hans))
    all_goals go_wp2
    all_goals go_ret2
    all_goals exact hfin.out _ _ hans.out
   ·rw [hk] at d0 hdo
    have hC:=hdo.2.2.1 rfl
    have tc:=hTc 7 _ (by rw [hTV.out]; rfl)
    clear hdo hTc hk
    go_upto_region 4 with (fail)
    go_region_held3 (fun U => U.cell? ⟨w.heap.size,0,none⟩ = some (.int .i64 7) ∧ U.cell? ⟨w.heap.size,1,none⟩ = some (.string p.f1) ∧ U.cell? ⟨w.heap.size,2,none⟩ = some (.string p.f2) ∧ U.cell? ⟨w.heap.size,3,none⟩ = some (.string p.f3) ∧ U.cell? ⟨w.heap.size,4,none⟩ = some (.int .i64 p.f4) ∧ U.cell? ⟨w.heap.size,5,none⟩ = some (.slice A5 p.f5.length c5) ∧ U.cell? ⟨w.heap.size,6,none⟩ = some (.slice A6 p.f6.length c6) ∧ U.cell? ⟨D,7,none⟩ = some (.func (.func 100) #[] #[.pointer (some ⟨B7,0,none⟩)])) (first | exact ⟨d0,d1,d2,d3,d4,d5,d6,tc⟩ | exact ⟨pw_cell_below hb d0,pw_cell_below hb d1,pw_cell_below hb d2,pw_cell_below hb d3,pw_cell_below hb d4,pw_cell_below hb d5,pw_cell_below hb d6,pw_cell_below hb tc⟩) ((go_at_call 100; refine (ans_calls hC).mono ?_; rintro e w3 ⟨S,rfl,hans⟩; have hb:=hans.1; replace hans:=Aside0.mk hans))
    all_goals go_wp2
    all_goals go_ret2
    all_goals exact hfin.out _ _ hans.out
   ·rw [hk] at d0 hdo
    have hC:=hdo.2.2.2.1 rfl
    have tc:=hTc 8 _ (by rw [hTV.out]; rfl)
    clear hdo hTc hk
    go_upto_region 4 with (fail)
    go_region_held3 (fun U => U.cell? ⟨w.heap.size,0,none⟩ = some (.int .i64 8) ∧ U.cell? ⟨w.heap.size,1,none⟩ = some (.string p.f1) ∧ U.cell? ⟨w.heap.size,2,none⟩ = some (.string p.f2) ∧ U.cell? ⟨w.heap.size,3,none⟩ = some (.string p.f3) ∧ U.cell? ⟨w.heap.size,4,none⟩ = some (.int .i64 p.f4) ∧ U.cell? ⟨w.heap.size,5,none⟩ = some (.slice A5 p.f5.length c5) ∧ U.cell? ⟨w.heap.size,6,none⟩ = some (.slice A6 p.f6.length c6) ∧ U.cell? ⟨D,8,none⟩ = some (.func (.func 100) #[] #[.pointer (some ⟨B8,0,none⟩)])) (first | exact ⟨d0,d1,d2,d3,d4,d5,d6,tc⟩ | exact ⟨pw_cell_below hb d0,pw_cell_below hb d1,pw_cell_below hb d2,pw_cell_below hb d3,pw_cell_below hb d4,pw_cell_below hb d5,pw_cell_below hb d6,pw_cell_below hb tc⟩) ((go_at_call 100; refine (ans_calls hC).mono ?_; rintro e w3 ⟨S,rfl,hans⟩; have hb:=hans.1; replace hans:=Aside0.mk hans))
    all_goals go_wp2
    all_goals go_ret2
    all_goals exact hfin.out _ _ hans.out
   ·rw [hk] at d0 hdo
    have hC:=hdo.2.2.2.2.1 rfl
    have tc:=hTc 9 _ (by rw [hTV.out]; rfl)
    clear hdo hTc hk
    go_upto_region 4 with (fail)
    go_region_held3 (fun U => U.cell? ⟨w.heap.size,0,none⟩ = some (.int .i64 9) ∧ U.cell? ⟨w.heap.size,1,none⟩ = some (.string p.f1) ∧ U.cell? ⟨w.heap.size,2,none⟩ = some (.string p.f2) ∧ U.cell? ⟨w.heap.size,3,none⟩ = some (.string p.f3) ∧ U.cell? ⟨w.heap.size,4,none⟩ = some (.int .i64 p.f4) ∧ U.cell? ⟨w.heap.size,5,none⟩ = some (.slice A5 p.f5.length c5) ∧ U.cell? ⟨w.heap.size,6,none⟩ = some (.slice A6 p.f6.length c6) ∧ U.cell? ⟨D,9,none⟩ = some (.func (.func 100) #[] #[.pointer (some ⟨B9,0,none⟩)])) (first | exact ⟨d0,d1,d2,d3,d4,d5,d6,tc⟩ | exact ⟨pw_cell_below hb d0,pw_cell_below hb d1,pw_cell_below hb d2,pw_cell_below hb d3,pw_cell_below hb d4,pw_cell_below hb d5,pw_cell_below hb d6,pw_cell_below hb tc⟩) ((go_at_call 100; refine (ans_calls hC).mono ?_; rintro e w3 ⟨S,rfl,hans⟩; have hb:=hans.1; replace hans:=Aside0.mk hans))
    all_goals go_wp2
    all_goals go_ret2
    all_goals exact hfin.out _ _ hans.out
   ·rw [hk] at d0 hdo
    have hC:=hdo.2.2.2.2.2 rfl
    have tc:=hTc 10 _ (by rw [hTV.out]; rfl)
    clear hdo hTc hk
    go_upto_region 4 with (fail)
    go_region_held3 (fun U => U.cell? ⟨w.heap.size,0,none⟩ = some (.int .i64 10) ∧ U.cell? ⟨w.heap.size,1,none⟩ = some (.string p.f1) ∧ U.cell? ⟨w.heap.size,2,none⟩ = some (.string p.f2) ∧ U.cell? ⟨w.heap.size,3,none⟩ = some (.string p.f3) ∧ U.cell? ⟨w.heap.size,4,none⟩ = some (.int .i64 p.f4) ∧ U.cell? ⟨w.heap.size,5,none⟩ = some (.slice A5 p.f5.length c5) ∧ U.cell? ⟨w.heap.size,6,none⟩ = some (.slice A6 p.f6.length c6) ∧ U.cell? ⟨D,10,none⟩ = some (.func (.func 58) #[] #[])) (first | exact ⟨d0,d1,d2,d3,d4,d5,d6,tc⟩ | exact ⟨pw_cell_below hb d0,pw_cell_below hb d1,pw_cell_below hb d2,pw_cell_below hb d3,pw_cell_below hb d4,pw_cell_below hb d5,pw_cell_below hb d6,pw_cell_below hb tc⟩) ((go_at_call 58; refine (ans_calls hC).mono ?_; rintro e w3 ⟨S,rfl,hans⟩; have hb:=hans.1; replace hans:=Aside0.mk hans))
    all_goals go_wp2
    all_goals go_ret2
    all_goals exact hfin.out _ _ hans.out
def AnsA (w : World) (R : List S41 × Int × Nat) (e : Ending) (w' : World) : Prop :=
 Below w.heap.size w w' ∧ (if R.2.1 = 0 then ∃ A c,e = .returned (.tuple #[.slice A R.1.length c,.int .i64 0,.int .i64 (R.2.2 : Int)]) ∧ R.1.length ≤ c ∧ Kd.C k41 w' A R.1.length R.1
  else e = .returned (.tuple #[.slice none 0 0,.int .i64 R.2.1,.int .i64 (R.2.2 : Int)]))
theorem ans_two {f : Nat} {args : Array Value} {w u : World} {M : List S41} {E : Int} (h : Calls Tryz.prog f args w (Ans u M E)) :
  Calls Tryz.prog f args w fun e w' => ∃ S,e = .returned (.tuple #[S,.int .i64 E]) ∧ Below u.heap.size u w' ∧ (E = 0 → ∃ A c,S = .slice A M.length c ∧ M.length ≤ c ∧ Kd.C k41 w' A M.length M):=by
 refine h.mono ?_
 intro e w' ha
 obtain ⟨hb,hi⟩:=ha
 by_cases hE : E = 0
 ·rw [if_pos hE] at hi
  obtain ⟨A,c,rfl,hl,hC⟩:=hi
  exact ⟨_,by rw [hE],hb,fun _ => ⟨A,c,rfl,hl,hC⟩⟩
 ·rw [if_neg hE] at hi
  exact ⟨_,hi,hb,fun h => absurd h hE⟩
set_option maxHeartbeats 4000000 in
set_option maxRecDepth 1000000 in
theorem all_at (l : List S41) (A : Option Addr) (c : Nat) (ps : List S25) (P : Option Addr) (d : Nat) (w : World) (Inv : Nat → List S41 → Prop) (hr : Kd.C k41 w A l.length l) (hps : Kd.C k25 w P ps.length ps) (hs : ∀ x ∈ l,x.f0.size ≤ 1000000000000) (hn : ps.length ≤ 1000000000)
  (h0 : treeB l = true → Inv 0 l) (hI : ∀ i M p,ps[i]? = some p → Inv i M → Fit M ∧ FitP p ∧ (applyE M p = 0 → Inv (i + 1) (doL M p))) :
  Calls Tryz.prog 29 #[.slice A l.length c,.slice P ps.length d] w (AnsA w (allE l ps)):=by
 have hT:=tree_at l A c w hr hs
 obtain ⟨n,hN⟩ : ∃ n,ps.length = n:=⟨_,rfl⟩
 rw [hN] at hps hn ⊢
 have HR:=Aside0.mk hr
 have HPS:=Aside0.mk hps
 have HI:=Aside0.mk hI
 have H0:=Aside0.mk h0
 have HN:=Aside0.mk hN
 clear hr hps hs hI h0 hN
 cases ht : treeB l with
 | false =>
  rw [ht] at hT
  have he : Aside0 (allE l ps = ([],1,0)):=⟨by unfold allE; rw [ht]; rfl⟩
  clear ht
  go_enter Tryz.func29,Tryz.ntmps29
  go_wp2_with (go_at_call 51; refine hT.mono ?_; rintro e w1 ⟨rfl,hb⟩)
  go_ret3
  exact ⟨hb,by rw [he.out,if_neg (by decide)]; rfl⟩
 | true =>
  rw [ht] at hT
  have hl : l.length ≤ 1000000000:=by have:=(tree_iff.1 ht).n; omega
  have hcl:=fun W (h : Below w.heap.size w W) => clone_at w l A c W h hl (rows_rw HR.out h)
  replace hcl:=Aside0.mk hcl
  have he : Aside0 (allE l ps = allV l ps 0):=⟨by unfold allE; rw [ht]; rfl⟩
  have hi0:=Aside0.mk (H0.out ht)
  clear ht H0 HR hl
  go_enter Tryz.func29,Tryz.ntmps29
  go_wp2_with (first
   | (go_at_call 51; refine hT.mono ?_; rintro e w1 ⟨rfl,hb1⟩)
   | (go_at_call 73; refine (hcl.out _ hb1).mono ?_; rintro e w2 ⟨v,rfl,hrow,hb2,_⟩; obtain ⟨A',c',rfl,hc',hC⟩:=row_C hrow hb2; replace hC:=Aside0.mk hC; replace hb2:=Aside0.mk hb2; replace hc':=Aside0.mk hc'; clear hrow))
  go_loopg [0,18] n (fun kq u0 u18 w' => ∃ (i : Nat) (M : List S41) (A : Option Addr) (c : Nat),u18 = .int .i64 (i : Int) ∧ u0 = .slice A M.length c ∧ Aside0 (i + kq = n) ∧ Aside0 (Inv i M) ∧ Aside0 (allV M (ps.drop i) i = allV l ps 0) ∧ Aside0 (M.length ≤ c ∧ Kd.C k41 w' A M.length M) ∧ Aside0 (Below w.heap.size w w'))
  case atStart => exact ⟨0,l,A',c',rfl,rfl,⟨by omega⟩,hi0,⟨rfl⟩,⟨hc'.out,hC.out⟩,hb2⟩
  case round =>
   clear hi0 hC hb2 hc' hcl hT
   obtain ⟨i,M,AM,cM,rfl,rfl,hk,hinv,hall,hCM,hBM⟩:=hrel
   by_cases hi : i < n
   ·have hil : i < ps.length:=by rw [HN.out]; exact hi
    have hcmp : decide ((i : Int) < (n : Int)) = true:=decide_eq_true (by omega)
    have i0 : (0 : Int) ≤ (i : Int):=by omega
    have i1 : (i : Int) < (n : Int):=by omega
    have hwi : IntKind.i64.wrap ((i : Int) + 1) = (i : Int) + 1:=wrap_small _ (by omega) (by omega)
    obtain ⟨ad,A5,c5,A6,c6,hP,x0,x1,x2,x3,x4,x5,x6,l5,g5,l6,g6⟩:=at_T25 (Kd.C_below HPS.out hBM.out) (i : Int) i0 i1
    have hrd : rd_T25 ps (i : Int) = ps[i]:=by unfold rd_T25; rw [Int.toNat_natCast,List.getD_eq_getElem?_getD,List.getElem?_eq_getElem hil]; rfl
    have hpi : ps[i]? = some ps[i]:=List.getElem?_eq_getElem hil
    have hdrop : ps.drop i = ps[i] :: ps.drop (i + 1):=List.drop_eq_getElem_cons hil
    rw [hrd] at x0 x1 x2 x3 x4 x5 x6 l5 g5 l6 g6
    rw [Int.toNat_natCast] at x0 x1 x2 x3 x4 x5 x6
    obtain ⟨p,hp⟩ : ∃ p,ps[i] = p:=⟨_,rfl⟩
    rw [hp] at x0 x1 x2 x3 x4 x5 x6 l5 g5 l6 g6 hpi hdrop
    obtain ⟨hfit,hfp,hnext⟩:=HI.out i M p hpi hinv.out
    subst hP
    have hBp : Below wr.heap.size wr (wr.alloc (.cells #[.int .i64 p.f0,.string p.f1,.string p.f2,.string p.f3,.int .i64 p.f4,.slice A5 p.f5.length c5,.slice A6 p.f6.length c6] 25)):=below_alloc (Below.refl _ _) _
    have hA:=ans_two (apply_at M AM cM p A5 c5 A6 c6 _ (Kd.C_below hCM.out.2 hBp) (Kd.C_below g5 hBp) l5 (Kd.C_below g6 hBp) l6 hfit hfp)
    obtain ⟨q0,q1,q2,q3,q4,q5,q6⟩:=cells7 (blk_new wr (.cells #[.int .i64 p.f0,.string p.f1,.string p.f2,.string p.f3,.int .i64 p.f4,.slice A5 p.f5.length c5,.slice A6 p.f6.length c6] 25))
    replace hA:=Aside0.mk hA
    replace hnext:=Aside0.mk hnext
    replace hdrop:=Aside0.mk hdrop
    replace hBp:=Aside0.mk hBp
    clear hfit hfp l5 g5 l6 g6 hp hpi hrd
    go_upto_region 7 with (fail)
    clear x0 x1 x2 x3 x4 x5 x6
    obtain ⟨E,hE⟩ : ∃ E,applyE M p = E:=⟨_,rfl⟩
    obtain ⟨M2,hM2⟩ : ∃ M2,doL M p = M2:=⟨_,rfl⟩
    rw [hE,hM2] at hA hnext
    have hstep : Aside0 (allV M (p :: ps.drop (i + 1)) i = if E = 0 then allV M2 (ps.drop (i + 1)) (i + 1) else ([],E,i)):=⟨by rw [← hE,← hM2]; rfl⟩
    clear hE hM2
    by_cases hz : E = 0
    ·have hnx : Aside0 (Inv (i + 1) M2):=⟨hnext.out hz⟩
     have hst2 : Aside0 (allV M (p :: ps.drop (i + 1)) i = allV M2 (ps.drop (i + 1)) (i + 1)):=⟨by rw [hstep.out,if_pos hz]⟩
     clear hnext hstep
     subst hz
     go_wp2_with (go_at_call 23; refine hA.out.mono ?_; rintro e w4 ⟨S,rfl,hb4,hS⟩; obtain ⟨A4,c4,rfl,hl4,hC4⟩:=hS rfl; replace hC4:=Aside0.mk hC4; replace hb4:=Aside0.mk hb4; replace hl4:=Aside0.mk hl4; clear hS)
     go_roundg (n - (i + 1))
     case measure => have:=hk.out; omega
     case rel => exact ⟨i + 1,M2,A4,c4,by simp,rfl,⟨by omega⟩,hnx,⟨by rw [← hall.out,hdrop.out,hst2.out]⟩,⟨hl4.out,hC4.out⟩,⟨hBM.out.trans ((hBp.out.trans (hb4.out.mono hBp.out.size)).mono hBM.out.size)⟩⟩
    ·have hne : (E != 0) = true:=by rw [bne_iff_ne]; exact hz
     have hne2 : (E == 0) = false:=by rw [beq_eq_false_iff_ne]; exact hz
     have hfin : Aside0 (∀ w4,Below (wr.alloc (.cells #[.int .i64 p.f0,.string p.f1,.string p.f2,.string p.f3,.int .i64 p.f4,.slice A5 p.f5.length c5,.slice A6 p.f6.length c6] 25)).heap.size (wr.alloc (.cells #[.int .i64 p.f0,.string p.f1,.string p.f2,.string p.f3,.int .i64 p.f4,.slice A5 p.f5.length c5,.slice A6 p.f6.length c6] 25)) w4 →
       AnsA w (allE l ps) (.returned (.tuple #[.slice none 0 0,.int .i64 E,.int .i64 (i : Int)])) w4):=⟨fun w4 hb4 => by
      refine ⟨hBM.out.trans ((hBp.out.trans (hb4.mono hBp.out.size)).mono hBM.out.size),?_⟩
      rw [he.out,← hall.out,hdrop.out,hstep.out,if_neg hz]
      exact if_neg (c:=E = 0) hz ▸ rfl⟩
     clear hz
     go_wp2_with (go_at_call 23; refine hA.out.mono ?_; rintro e w4 ⟨S,rfl,hb4,hS⟩; replace hb4:=Aside0.mk hb4; clear hS)
     go_ret3
     exact hfin.out _ hb4.out
   ·have hcmp : decide ((i : Int) < (n : Int)) = false:=decide_eq_false (by omega)
    have hfin : Aside0 (AnsA w (allE l ps) (.returned (.tuple #[.slice AM M.length cM,.int .i64 0,.int .i64 0])) wr):=⟨by
     refine ⟨hBM.out,?_⟩
     have hd : ps.drop i = []:=List.drop_eq_nil_of_le (by have:=HN.out; omega)
     have ha : allE l ps = (M,0,0):=by rw [he.out,← hall.out,hd]; rfl
     rw [ha,if_pos rfl]
     exact ⟨AM,cM,rfl,hCM.out.1,hCM.out.2⟩⟩
    go_wp2
    go_ret3
    exact hfin.out
def hL : List S41:=[⟨⟨#[97]⟩,2,[⟨#[120]⟩],⟨#[]⟩⟩]
def hQ : S25:=⟨1,⟨#[100]⟩,⟨#[]⟩,⟨#[]⟩,0,[],[]⟩
def hZ : S25:=⟨0,⟨#[]⟩,⟨#[]⟩,⟨#[]⟩,0,[],[]⟩
theorem thing_path {x : S41} (h : thingB x = true) : rightB x.f0 = true:=by
 unfold thingB at h
 simp only [Bool.and_eq_true] at h
 first
  | exact h.1
  | exact h.1.1
  | exact h.1.1.1
  | exact h.1.1.1.1
  | exact h.1.1.1.1.1
structure Rd (w : World) (x : S25) (A5 : Option Addr) (c5 : Nat) (A6 : Option Addr) (c6 : Nat) : Prop where
 g5 : Kd.C Kd.string w A5 x.f5.length x.f5
 l5 : x.f5.length ≤ c5
 g6 : Kd.C Kd.string w A6 x.f6.length x.f6
 l6 : x.f6.length ≤ c6
theorem Rd.below {w W : World} {x : S25} {A5 : Option Addr} {c5 : Nat} {A6 : Option Addr} {c6 : Nat} (h : Rd w x A5 c5 A6 c6) (hb : Below w.heap.size w W) : Rd W x A5 c5 A6 c6:=⟨Kd.C_below h.g5 hb,h.l5,Kd.C_below h.g6 hb,h.l6⟩
theorem two_steps {u T v : World} (hT : Below u.heap.size u T) (hb : Below T.heap.size T v) : Below u.heap.size u v:=hT.trans (hb.mono hT.size)
theorem box1 (u : World) (o o' : Obj) : ((u.alloc o).alloc o').heap[u.heap.size]? = some o:=blk_alloc (blk_new u o) o'
theorem box2 (u : World) (o o' : Obj) : ((u.alloc o).alloc o').heap[u.heap.size + 1]? = some o':=by
 have h:=blk_new (u.alloc o) o'
 simpa using h
theorem G_at (l : List S41) (A : Option Addr) (c : Nat) (w : World) (hr : Kd.C k41 w A l.length l) (hc : l.length ≤ c) (hn : l.length ≤ 140737488355328) (hx : ∀ x ∈ l,x.f2.length ≤ 140737488355328) :
  ∃ r,(r = false → l.length < 800 ∧ ∀ x ∈ l,Small x) ∧ ∀ U,Below w.heap.size w U → Calls Tryz.prog 21 #[.slice A l.length c] U fun e w' => e = .returned (.bool r) ∧ Below U.heap.size U w':=by
 obtain ⟨r,hr',h⟩:=great7 l hn hx
 obtain ⟨k,hk⟩:=hr'.rounds
 exact ⟨r,h,fun U hU => counterpanelaw07_Great.calls k A c l r U (Kd.C_below hr hU) hc hk⟩
theorem inv_rd (x : S25) (A5 : Option Addr) (c5 : Nat) (A6 : Option Addr) (c6 : Nat) (w : World) (rx : Rd w x A5 c5 A6 c6) :
  Calls Tryz.prog 39 #[.agg #[.int .i64 x.f0,.string x.f1,.string x.f2,.string x.f3,.int .i64 x.f4,.slice A5 x.f5.length c5,.slice A6 x.f6.length c6]] w fun e w' =>
   ∃ B5 d5 B6 d6,e = .returned (.agg #[.int .i64 (invS x).f0,.string (invS x).f1,.string (invS x).f2,.string (invS x).f3,.int .i64 (invS x).f4,.slice B5 (invS x).f5.length d5,.slice B6 (invS x).f6.length d6]) ∧ Rd w' (invS x) B5 d5 B6 d6 ∧ Below w.heap.size w w':=by
 refine (inv_cells x A5 c5 A6 c6 w (fun k => k < w.heap.size) rx.l5 (Kd.C_F Kd.heap_string rx.g5) rx.l6 (Kd.C_F Kd.heap_string rx.g6)).mono ?_
 rintro e w' ⟨B5,d5,B6,d6,rfl,m5,e5,m6,e6,hb⟩
 exact ⟨B5,d5,B6,d6,rfl,⟨Kd.F_now e5,m5,Kd.F_now e6,m6⟩,hb⟩
end Go.Proofs.YthhohbidjhcjeaaGreatDoor.H
