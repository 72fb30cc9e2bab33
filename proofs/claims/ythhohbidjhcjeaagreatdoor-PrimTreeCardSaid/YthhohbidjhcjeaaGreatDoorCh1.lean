/- The statement PrimTree holds: whatever the input the law returns true, and the input reads behind the call as before; the listed tables are tied to the program's text. -/
import Derived.Test.YthhohbidjhcjeaaGreatDoorBWf
import Derived.Test.YthhohbidjhcjeaaGreatDoorBWe
import Derived.Test.YthhohbidjhcjeaaGreatDoorBM8
import Derived.Test.YthhohbidjhcjeaaGreatDoorBT2
import Derived.Test.YthhohbidjhcjeaaGreatDoorBM6
import Derived.Test.YthhohbidjhcjeaaGreatDoorRows
import Derived.Test.YthhohbidjhcjeaaGreatDoorCards
import Derived.Test.YthhohbidjhcjeaaGreatDoorTie
import Derived.WalkKit
import Derived.ProofKit
import Derived.OpenShut
import Derived.ShutString
import Derived.ChangeOld
import Derived.Below
import Derived.SizedLaws
import Derived.Lay
import Derived.LaidOnce
import Derived.LaidMore
import Derived.SevenTiedAt
namespace Go.Proofs.YthhohbidjhcjeaaGreatDoor.H
open Go.RowKit Go.Shelf Go.Proofs.YthhohbidjhcjeaaGreatDoorW.PrintWords Go.Proofs.YthhohbidjhcjeaaGreatDoorW.PrintLast Go.Proofs.YthhohbidjhcjeaaGreatDoorW.PrintMore
open Go.Proofs.YthhohbidjhcjeaaGreatDoor.Q Go.Proofs.YthhohbidjhcjeaaGreatDoor.Pl
set_option linter.unusedVariables false
set_option linter.unusedSimpArgs false
/-- The reference's Right of trees, of small things, asked at any world that grew. -/
theorem TR_at (l : List S41) (A : Option Addr) (c : Nat) (w : World) (hr : Kd.C k41 w A l.length l) (hc : l.length ≤ c) (hs : ∀ x ∈ l,Small x) :
  ∀ U,Below w.heap.size w U → Calls Tryz.prog 31 #[.slice A l.length c] U fun e w' => e = .returned (.bool (treeB l)) ∧ Below U.heap.size U w':=fun U hU =>
 treeR_at l A c U (Kd.C_below hr hU) hc (fun x hx => by have:=(hs x hx).p; omega) (fun x hx => by have:=(hs x hx).n; omega) (fun x hx s hm => by have:=(hs x hx).s s hm; omega)
end Go.Proofs.YthhohbidjhcjeaaGreatDoor.H
namespace Go.Proofs.YthhohbidjhcjeaaGreatDoor.H
open Go.RowKit Go.Proofs.YthhohbidjhcjeaaGreatDoor.Q Go.Proofs.YthhohbidjhcjeaaGreatDoor.Pl
set_option linter.unusedVariables false
set_option linter.unusedSimpArgs false
/-- The paths that a patch is of. -/
def Rg (p : S25) (s : ByteArray) : Prop:=withinB s p.f1 = true ∨ (p.f0 = 10 ∧ withinB s p.f2 = true)
/-- What is not a patch's own is as it was. -/
theorem do_else {l : List S41} {p : S25} (h : applyE l p = 0) {s : ByteArray} (hs : ¬ Rg p s) : findV (doL l p) s = findV l s:=by
 obtain ⟨ht,hp,hd⟩:=apply_zero.mp h
 have h1 : withinB s p.f1 = false:=by
  cases k : withinB s p.f1 with
  | false => rfl
  | true => exact absurd (.inl k) hs
 have hne : s ≠ p.f1:=fun e => by rw [e,within_refl] at h1; cases h1
 rcases kinds4 hp with hk | hk | ⟨h7,h9⟩ | h10
 ·obtain ⟨e1,e2⟩:=doE_add (l:=l) hk
  rw [e1] at hd
  rw [e2,ins_find ht.s (x:=newE p) (add_zero.mp hd).1]
  exact if_neg hne
 ·obtain ⟨e1,e2⟩:=doE_remove (l:=l) hk
  rw [e1] at hd
  rw [e2,del_find ht.s ((remove_zero ht.s).mp hd).1,if_neg hne]
 ·obtain ⟨e1,e2⟩:=doE_change (l:=l) h7 h9
  rw [e1] at hd
  obtain ⟨x,y,hx,hk,hc⟩:=change_zero.mp hd
  rw [e2,change_L hx hc,set_find ht.s hx ((change_f0 hc).1.trans (find_mem hx).2),if_neg hne]
 ·obtain ⟨e1,e2⟩:=doE_move (l:=l) h10
  rw [e1] at hd
  obtain ⟨⟨x0,hx0⟩,hn,hu,hr⟩:=move_zero.mp hd
  have h2 : withinB s p.f2 = false:=by
   cases k : withinB s p.f2 with
   | false => rfl
   | true => exact absurd (.inr ⟨h10,k⟩) hs
  rw [e2]
  unfold moveL
  rw [move_find ht.s (ht.none_within hn),h1,h2,if_neg (by simp),if_neg (by simp)]
/-! ### lengths -/
/-! ### apart ones -/
end Go.Proofs.YthhohbidjhcjeaaGreatDoor.H
namespace Go.Proofs.YthhohbidjhcjeaaGreatDoor.H
open Go.RowKit Go.Proofs.YthhohbidjhcjeaaGreatDoor.Q Go.Proofs.YthhohbidjhcjeaaGreatDoor.Pl
set_option linter.unusedVariables false
set_option linter.unusedSimpArgs false
theorem apart_iff (a b : ByteArray) : apartB a b = true ↔ withinB a b = false ∧ withinB b a = false:=by
 unfold apartB
 cases withinB a b <;> cases withinB b a <;> simp
theorem right_ne {s : ByteArray} (h : rightB s = true) : s ≠ e0:=by
 rintro rfl
 have : rightB e0 = false:=by decide +kernel
 rw [this] at h; cases h
/-- PrimTree: things apart from a patch's paths are as they were. -/
theorem tree_else {l : List S41} {p : S25} (h : applyE l p = 0) {x : S41} (hx : x ∈ l) (h1 : apartB x.f0 p.f1 = true) (h2 : p.f2 ≠ e0 → p.f0 = 10 → apartB x.f0 p.f2 = true) : findV (doL l p) x.f0 = some x:=by
 obtain ⟨ht,hp,hd⟩:=apply_zero.mp h
 rw [do_else h,find_of_mem ht.s hx]
 rintro (k | ⟨h10,k⟩)
 ·rw [((apart_iff _ _).mp h1).1] at k; cases k
 ·have:=h2 (right_ne (prim_move hp h10).1) h10
  rw [((apart_iff _ _).mp this).1] at k; cases k
end Go.Proofs.YthhohbidjhcjeaaGreatDoor.H
namespace Go.Proofs.YthhohbidjhcjeaaGreatDoor.H
open Go.RowKit Go.Shelf Go.Proofs.YthhohbidjhcjeaaGreatDoorW.PrintWords Go.Proofs.YthhohbidjhcjeaaGreatDoorW.PrintLast Go.Proofs.YthhohbidjhcjeaaGreatDoorW.PrintMore
open Go.Proofs.YthhohbidjhcjeaaGreatDoor.Q Go.Proofs.YthhohbidjhcjeaaGreatDoor.Pl
set_option linter.unusedVariables false
set_option linter.unusedSimpArgs false
theorem lit0E (w : World) : Kd.N k41 41 (w.alloc (.cells #[] 41)) w.heap.size (fun _ => True) (.slice (some ⟨w.heap.size,0,none⟩) 0 0) []:=by
 have hr : Reps (fun x c => Kd.FK k41 w (fun _ => False) x c) k41.sz [] []:=Reps.none _ _
 have ho : Kd.NN k41 41 (w.alloc (.cells #[] 41)) w.heap.size (fun _ => False) (.slice (some ⟨w.heap.size,0,none⟩) 0 0) [] :=
  OwnRow.lit w w.heap.size (hr.imp_ (fun _ _ h => Kd.FK_below h (below_alloc (Below.refl _ _) _))) (Nat.le_refl _) (by simp)
 exact Kd.N_mono (Kd.NN_N ho (fun _ h => h.elim)) (fun _ _ => trivial)
set_option maxHeartbeats 4000000 in
set_option maxRecDepth 1000000 in
theorem ptree_calls (l : List S41) (A : Option Addr) (c : Nat) (p : S25) (A5 : Option Addr) (a5 : Nat) (A6 : Option Addr) (a6 : Nat) (w : World) (hr : Kd.C k41 w A l.length l) (hc : l.length ≤ c) (hn : l.length ≤ 140737488355328) (hx : ∀ x ∈ l,x.f2.length ≤ 140737488355328) (hp : Okp p) (rp : Rd w p A5 a5 A6 a6) :
  Calls Tryz.prog 5 #[.slice A l.length c,.agg #[.int .i64 p.f0,.string p.f1,.string p.f2,.string p.f3,.int .i64 p.f4,.slice A5 p.f5.length a5,.slice A6 p.f6.length a6]] w fun e w' => e = .returned (.bool true) ∧ Below w.heap.size w w':=by
 obtain ⟨g,hgs,hG⟩:=G_at l A c w hr hc hn hx
 obtain ⟨k,hks,hK⟩:=K_at p A5 a5 A6 a6 w hp rp
 replace hG:=Aside0.mk hG
 replace hK:=Aside0.mk hK
 replace hgs:=Aside0.mk hgs
 replace hks:=Aside0.mk hks
 replace hn:=Aside0.mk hn
 replace hx:=Aside0.mk hx
 replace hr:=Aside0.mk hr
 replace hc:=Aside0.mk hc
 replace hp:=Aside0.mk hp
 replace rp:=Aside0.mk rp
 go_enter Tryz.func5,Tryz.ntmps5
 go_wp2_with (fail)
 refine (head08_calls _).mono ?_
 rintro e w1 ⟨rfl,hb1⟩
 have hs1 : Below w.heap.size w w1:=two_steps (by repeat (first | exact Below.refl _ _ | refine Below.setCell ?_ (by simp <;> omega) _ | refine Below.alloc ?_ (by simp <;> omega) _ | refine Below.drew ?_)) hb1
 have hw1 : Below w.heap.size w w1:=(Below.refl w.heap.size w).trans (hs1.mono (Below.refl w.heap.size w).size)
 have xp : w1.heap[w.heap.size]? = some (.cells #[.int .i64 p.f0,.string p.f1,.string p.f2,.string p.f3,.int .i64 p.f4,.slice A5 p.f5.length a5,.slice A6 p.f6.length a6] 25 (0,0)):=blk_below (blk_new w _) hb1
 clear hb1
 obtain ⟨pc0,pc1,pc2,pc3,pc4,pc5,pc6⟩:=cells7 xp
 go_wp2_with (fail)
 refine (hG.out _ (by repeat (first | with_reducible exact hw1 | refine Below.setCell ?_ (by have:=hw1.size; simp <;> omega) _ | refine Below.alloc ?_ (by have:=hw1.size; simp <;> omega) _ | refine Below.drew ?_))).mono ?_
 rintro e w2 ⟨rfl,hb2⟩
 clear pc0 pc1 pc2 pc3 pc4 pc5 pc6
 have hs2 : Below w1.heap.size w1 w2:=two_steps (by repeat (first | exact Below.refl _ _ | refine Below.setCell ?_ (by simp <;> omega) _ | refine Below.alloc ?_ (by simp <;> omega) _ | refine Below.drew ?_)) hb2
 have hw2 : Below w.heap.size w w2:=hw1.trans (hs2.mono hw1.size)
 have xp:=blk_below xp hs2
 clear hb2
 obtain ⟨pc0,pc1,pc2,pc3,pc4,pc5,pc6⟩:=cells7 xp
 cases g with
 | true =>
  go_wp2
  go_ret
  exact ⟨rfl,(by repeat (first | with_reducible exact hw2 | refine Below.setCell ?_ (by have:=hw2.size; simp <;> omega) _ | refine Below.alloc ?_ (by have:=hw2.size; simp <;> omega) _ | refine Below.drew ?_))⟩
 | false =>
  go_wp2_with (fail)
  refine (hK.out _ (by repeat (first | with_reducible exact hw2 | refine Below.setCell ?_ (by have:=hw2.size; simp <;> omega) _ | refine Below.alloc ?_ (by have:=hw2.size; simp <;> omega) _ | refine Below.drew ?_))).mono ?_
  rintro e w3 ⟨rfl,hb3⟩
  clear pc0 pc1 pc2 pc3 pc4 pc5 pc6
  have hs3 : Below w2.heap.size w2 w3:=two_steps (by repeat (first | exact Below.refl _ _ | refine Below.setCell ?_ (by simp <;> omega) _ | refine Below.alloc ?_ (by simp <;> omega) _ | refine Below.drew ?_)) hb3
  have hw3 : Below w.heap.size w w3:=hw2.trans (hs3.mono hw2.size)
  have xp:=blk_below xp hs3
  clear hb3
  obtain ⟨pc0,pc1,pc2,pc3,pc4,pc5,pc6⟩:=cells7 xp
  cases k with
  | true =>
   go_wp2
   go_ret
   exact ⟨rfl,(by repeat (first | with_reducible exact hw3 | refine Below.setCell ?_ (by have:=hw3.size; simp <;> omega) _ | refine Below.alloc ?_ (by have:=hw3.size; simp <;> omega) _ | refine Below.drew ?_))⟩
  | false =>
   have hsm:=Aside0.mk (hgs.out (by trivial))
   have hsp:=Aside0.mk (hks.out (by trivial))
   have hT:=Aside0.mk (TR_at l A c w hr.out hc.out hsm.out.2)
   cases ht : treeB l with
   | false =>
    rw [ht] at hT
    go_wp2_with (fail)
    refine (hT.out _ (by repeat (first | with_reducible exact hw3 | refine Below.setCell ?_ (by have:=hw3.size; simp <;> omega) _ | refine Below.alloc ?_ (by have:=hw3.size; simp <;> omega) _ | refine Below.drew ?_))).mono ?_
    rintro e w4 ⟨rfl,hb4⟩
    clear pc0 pc1 pc2 pc3 pc4 pc5 pc6
    have hs4 : Below w3.heap.size w3 w4:=two_steps (by repeat (first | exact Below.refl _ _ | refine Below.setCell ?_ (by simp <;> omega) _ | refine Below.alloc ?_ (by simp <;> omega) _ | refine Below.drew ?_)) hb4
    have hw4 : Below w.heap.size w w4:=hw3.trans (hs4.mono hw3.size)
    have xp:=blk_below xp hs4
    clear hb4
    obtain ⟨pc0,pc1,pc2,pc3,pc4,pc5,pc6⟩:=cells7 xp
    go_wp2
    go_ret
    exact ⟨rfl,(by repeat (first | with_reducible exact hw4 | refine Below.setCell ?_ (by have:=hw4.size; simp <;> omega) _ | refine Below.alloc ?_ (by have:=hw4.size; simp <;> omega) _ | refine Below.drew ?_))⟩
   | true =>
    rw [ht] at hT
    replace ht:=Aside0.mk ht
    go_wp2_with (fail)
    refine (hT.out _ (by repeat (first | with_reducible exact hw3 | refine Below.setCell ?_ (by have:=hw3.size; simp <;> omega) _ | refine Below.alloc ?_ (by have:=hw3.size; simp <;> omega) _ | refine Below.drew ?_))).mono ?_
    rintro e w4 ⟨rfl,hb4⟩
    clear pc0 pc1 pc2 pc3 pc4 pc5 pc6
    have hs4 : Below w3.heap.size w3 w4:=two_steps (by repeat (first | exact Below.refl _ _ | refine Below.setCell ?_ (by simp <;> omega) _ | refine Below.alloc ?_ (by simp <;> omega) _ | refine Below.drew ?_)) hb4
    have hw4 : Below w.heap.size w w4:=hw3.trans (hs4.mono hw3.size)
    have xp:=blk_below xp hs4
    clear hb4
    obtain ⟨pc0,pc1,pc2,pc3,pc4,pc5,pc6⟩:=cells7 xp
    have hL : Aside0 (Below w4.heap.size w4 (w4.alloc (.cells #[] 41))):=⟨below_alloc (Below.refl _ _) _⟩
    have hN0:=Aside0.mk (lit0E w4)
    have FA : Aside0 (Kd.F k41 w4 (fun k => k < w4.heap.size) A l.length l):=⟨Kd.C_F k41_heap (Kd.C_below hr.out hw4)⟩
    have ok0 : Aside0 (∀ k,k < w4.heap.size → True ∧ some k ≠ (Value.slice (some ⟨w4.heap.size,0,none⟩) 0 0).ownBlock):=⟨fun k hk => ⟨trivial,fun e => by simp [Value.ownBlock] at e; omega⟩⟩
    go_upto_region 5 with (((with_reducible refine gate_builtin (b:=.append) (xs:=#[.tmp 25,.tmp 26]) rfl ?_); at_builtin; refine Kd.N_append_rows k41 (w0:=w4) w4.heap.size rfl (.tmp 25) (.tmp 26) 22 41 (.agg #[(.string ⟨#[]⟩),(.int .i64 0),(.slice none 0 0),(.string ⟨#[]⟩)]) 64 rfl Tryz.underlying22 info41 rfl (by decide) (by omega) (.slice (some ⟨w4.heap.size,0,none⟩) 0 0) [] l A l.length c (fun _ => True) (fun k => k < w4.heap.size) rfl rfl ?aO ?aR ?aP (fun _ _ => trivial) ?aB ?aS ?aL ?_; (case aO => exact hN0.out); (case aR => exact Kd.F_below FA.out hL.out); (case aP => exact ok0.out); (case aB => exact hL.out); (case aS => exact (hL.out).size); (case aL => have:=hsm.out.1; simp; omega); intro v1 y1 hN1 hB1 hg_ hat_; replace hN1:=Aside0.mk hN1; replace hB1:=Aside0.mk hB1; clear hg_ hat_))
    rw [List.nil_append] at hN1
    obtain ⟨D1,d1,rfl,hD1,gD1⟩:=Kd.N_reads hN1.out
    clear pc0 pc1 pc2 pc3 pc4 pc5 pc6
    have hs5 : Below w4.heap.size w4 y1:=hB1.out
    have hw5 : Below w.heap.size w y1:=hw4.trans (hs5.mono hw4.size)
    have xp:=blk_below xp hs5
    obtain ⟨pc0,pc1,pc2,pc3,pc4,pc5,pc6⟩:=cells7 xp
    clear hL hN0 FA ok0 hN1
    replace gD1:=Aside0.mk gD1
    replace hD1:=Aside0.mk hD1
    have hA:=A_at l D1 d1 p A5 a5 A6 a6 y1 gD1.out (rp.out.below hw5) (small_fit hsm.out.2) (small_fitP hsp.out hp.out)
    have hel:=fun h x hx h1 h2 => tree_else (l:=l) (p:=p) h (x:=x) hx h1 h2
    have hTM:=fun h => apply_tree (l:=l) (p:=p) h
    have hbM:=fun h => bnd_do (small_bnd hsm.out.2) (smallq hsp.out) (p:=p) (l:=l) h
    obtain ⟨E,hE⟩ : ∃ E,applyE l p = E:=⟨_,rfl⟩
    obtain ⟨M,hM⟩ : ∃ M,doL l p = M:=⟨_,rfl⟩
    simp only [hE,hM] at hA hel hTM hbM
    replace hA:=Aside0.mk hA
    replace hel:=Aside0.mk hel
    replace hTM:=Aside0.mk hTM
    replace hbM:=Aside0.mk hbM
    clear hE hM
    go_wp2_with (fail)
    refine (hA.out _ (Below.refl _ _)).mono ?_
    rintro e w6 ⟨S,rfl,hb6,hS,hSn⟩
    clear pc0 pc1 pc2 pc3 pc4 pc5 pc6
    have hs6 : Below y1.heap.size y1 w6:=two_steps (by repeat (first | exact Below.refl _ _ | refine Below.setCell ?_ (by simp <;> omega) _ | refine Below.alloc ?_ (by simp <;> omega) _ | refine Below.drew ?_)) hb6
    have hw6 : Below w.heap.size w w6:=hw5.trans (hs6.mono hw5.size)
    have xp:=blk_below xp hs6
    replace hS:=Aside0.mk hS
    replace hSn:=Aside0.mk hSn
    have gD2:=Aside0.mk (Kd.C_below gD1.out hb6)
    clear hb6
    obtain ⟨pc0,pc1,pc2,pc3,pc4,pc5,pc6⟩:=cells7 xp
    by_cases hz : E = 0
    ·subst hz
     obtain ⟨A4,c4,rfl,hl4,hC4⟩:=hS.out (by trivial)
     clear hS hSn
     replace hC4:=Aside0.mk hC4
     replace hl4:=Aside0.mk hl4
     have hTr:=Aside0.mk (hTM.out (by trivial))
     have hbd:=Aside0.mk (hbM.out (by trivial))
     replace hel:=Aside0.mk (hel.out (by trivial))
     go_wp2_with (fail)
     refine (sameE_at l hn.out hx.out D1 d1 A c _ gD2.out hD1.out (Kd.C_below hr.out (by repeat (first | with_reducible exact hw6 | refine Below.setCell ?_ (by have:=hw6.size; simp <;> omega) _ | refine Below.alloc ?_ (by have:=hw6.size; simp <;> omega) _ | refine Below.drew ?_))) hc.out).mono ?_
     rintro e w7 ⟨rfl,hb7⟩
     clear pc0 pc1 pc2 pc3 pc4 pc5 pc6
     have hs7 : Below w6.heap.size w6 w7:=two_steps (by repeat (first | exact Below.refl _ _ | refine Below.setCell ?_ (by simp <;> omega) _ | refine Below.alloc ?_ (by simp <;> omega) _ | refine Below.drew ?_)) hb7
     have hw7 : Below w.heap.size w w7:=hw6.trans (hs7.mono hw6.size)
     have xp:=blk_below xp hs7
     clear hb7
     obtain ⟨pc0,pc1,pc2,pc3,pc4,pc5,pc6⟩:=cells7 xp
     have hC5:=Aside0.mk (Kd.C_below hC4.out hs7)
     have hTx:=treeR_at M A4 c4 w7 hC5.out hl4.out hbd.out.s (fun x hx => Nat.le_trans (hbd.out.n x hx) (by decide)) (fun x hx s hs => Nat.le_trans (hbd.out.r x hx s hs).size (by decide))
     rw [tree_iff.2 hTr.out] at hTx
     replace hTx:=Aside0.mk hTx
     go_wp2_with (fail)
     refine (hTx.out).mono ?_
     rintro e w8 ⟨rfl,hb8⟩
     clear pc0 pc1 pc2 pc3 pc4 pc5 pc6
     have hs8 : Below w7.heap.size w7 w8:=two_steps (by repeat (first | exact Below.refl _ _ | refine Below.setCell ?_ (by simp <;> omega) _ | refine Below.alloc ?_ (by simp <;> omega) _ | refine Below.drew ?_)) hb8
     have hw8 : Below w.heap.size w w8:=hw7.trans (hs8.mono hw7.size)
     have xp:=blk_below xp hs8
     clear hb8
     obtain ⟨pc0,pc1,pc2,pc3,pc4,pc5,pc6⟩:=cells7 xp
     have hC6:=Aside0.mk (Kd.C_below hC5.out hs8)
     have hMn : Aside0 (M.length ≤ 140737488355328):=⟨by have:=hTr.out.n; omega⟩
     have xp0:=Aside0.mk xp
     clear pc0 pc1 pc2 pc3 pc4 pc5 pc6
     have B0 : Aside0 (Below w8.heap.size w8 w8):=⟨Below.refl _ _⟩
     go_wp2
     go_loopg [9] l.length (fun kx s9 wr => ∃ i : Nat,s9 = .int .i64 i ∧ i + kx = l.length ∧ Aside0 (Below w8.heap.size w8 wr))
     case atStart => exact ⟨0,rfl,by omega,B0⟩
     case round =>
      clear B0
      obtain ⟨i,rfl,hi,B1⟩:=hrel
      obtain ⟨r0,r1,r2,r3,r4,r5,r6⟩:=cells7 (blk_below xp0.out B1.out)
      clear r3 r4 r5 r6
      have hwr0 : Below w.heap.size w wr:=hw8.trans (B1.out.mono hw8.size)
      by_cases hlt : i < l.length
      ·have hi0 : (0 : Int) ≤ (i : Int):=by omega
       have hl8 : l.length < 800:=hsm.out.1
       have hi1 : (i : Int) < (l.length : Int):=by omega
       have hdb : decide ((i : Int) < (l.length : Int)) = true:=decide_eq_true hi1
       have hwi : IntKind.i64.wrap ((i : Int) + 1) = ((i + 1 : Nat) : Int):=by rw [wrap_small _ (by omega) (by omega)]; omega
       obtain ⟨ad,Y,d,rfl,ry,q0,q1,q2,q3⟩:=ent_at (Kd.C_below hr.out hwr0) i hlt rfl
       obtain ⟨x,hxe⟩ : ∃ x,l.getD i z41 = x:=⟨_,rfl⟩
       rw [hxe] at ry q0 q1 q2 q3
       have hxi : l[i] = x:=by rw [← hxe,getD_get hlt]
       have hxm : x ∈ l:=by rw [← hxi]; exact List.getElem_mem hlt
       have hAp1:=fun U => apartR_at x.f0 p.f1 U
       have hAp2:=fun U => apartR_at x.f0 p.f2 U
       have helx:=hel.out x hxm
       have hxn : Aside0 (x.f2.length ≤ 140737488355328):=⟨hx.out x hxm⟩
       replace hxi:=Aside0.mk hxi
       replace q0:=Aside0.mk q0
       replace r0:=Aside0.mk r0
       replace r1:=Aside0.mk r1
       replace r2:=Aside0.mk r2
       have hFd:=fun U h => find_at M A4 c4 x.f0 w8 hC6.out hl4.out hMn.out U h
       clear hxe hxm q1 q2 q3 ry
       go_upto_region 15 with (fail)
       cases c1 : apartB x.f0 p.f1 with
       | false =>
        refine wp_region_held_drew (S:=Below wr.drew.heap.size wr.drew) (by kernel_rfl) (Below.refl _ _) (fun hS => ?_)
        refine tkH (v:=?_) 0 (some 55) rfl rfl (by kernel_rfl) (by kernel_rfl) (fun _ _ _ h => h) (fun W' hSW => ?_) hS ?_
        rotate_left
        ·go_simp; (try with_reducible rfl)
        simp only [Act.put,List.setIfInBounds_toArray,List.set_cons_zero,List.set_cons_succ]
        refine tkH (v:=?_) 1 (some 56) rfl rfl (by kernel_rfl) (by kernel_rfl) (fun _ _ _ h => h) (fun W' hSW => ?_) hS ?_
        rotate_left
        ·go_simp; (try with_reducible rfl)
        simp only [Act.put,List.setIfInBounds_toArray,List.set_cons_zero,List.set_cons_succ]
        refine tkH (v:=?_) 2 (some 57) rfl rfl (by kernel_rfl) (by kernel_rfl) (fun _ _ _ h => h) (fun W' hSW => ?_) hS ?_
        rotate_left
        ·go_simp; (try with_reducible rfl)
        simp only [Act.put,List.setIfInBounds_toArray,List.set_cons_zero,List.set_cons_succ]
        refine tkH (v:=?_) 3 (some 58) rfl rfl (by kernel_rfl) (by kernel_rfl) (fun _ _ _ h => h) (fun W' hSW => ?_) hS ?_
        rotate_left
        ·go_simp; (try with_reducible rfl)
        simp only [Act.put,List.setIfInBounds_toArray,List.set_cons_zero,List.set_cons_succ]
        refine tkH (v:=?_) 4 (some 59) rfl rfl (by kernel_rfl) (by kernel_rfl) (fun _ _ _ h => h) (fun W' hSW => ?_) hS ?_
        rotate_left
        ·have k0:=pw_cell_below ((below_drew (Below.refl _ _)).trans hSW) q0.out; go_simp; (try with_reducible rfl)
        simp only [Act.put,List.setIfInBounds_toArray,List.set_cons_zero,List.set_cons_succ]
        refine tkH (v:=?_) 5 (some 60) rfl rfl (by kernel_rfl) (by kernel_rfl) (fun _ _ _ h => h) (fun W' hSW => ?_) hS ?_
        rotate_left
        ·go_simp; (try with_reducible rfl)
        simp only [Act.put,List.setIfInBounds_toArray,List.set_cons_zero,List.set_cons_succ]
        refine tkH (v:=?_) 6 (some 61) rfl rfl (by kernel_rfl) (by kernel_rfl) (fun _ _ _ h => h) (fun W' hSW => ?_) hS ?_
        rotate_left
        ·have k0:=pw_cell_below ((below_drew (Below.refl _ _)).trans hSW) r1.out; go_simp; (try with_reducible rfl)
        simp only [Act.put,List.setIfInBounds_toArray,List.set_cons_zero,List.set_cons_succ]
        refine wpAnyH_ready (rs:=[7]) (by kernel_rfl) (by simp) (AllReadyH.cons rfl (fun K hK => ?_) AllReadyH.nil)
        go_simp
        refine (hAp1 _).mono ?_
        rintro e W7 ⟨rfl,hb⟩
        have hS:=hS.trans (hb.mono hS.size)
        clear hb
        refine hK.out _ _ hS (fun _ => ?_)
        clear hK K
        refine tkH (v:=?_) 8 (some 63) rfl rfl (by kernel_rfl) (by kernel_rfl) (fun _ _ _ h => h) (fun W' hSW => ?_) hS ?_
        rotate_left
        ·go_simp; (try with_reducible rfl)
        simp only [Act.put,List.setIfInBounds_toArray,List.set_cons_zero,List.set_cons_succ]
        refine tkH (v:=?_) 9 (some 64) rfl rfl (by kernel_rfl) (by kernel_rfl) (fun _ _ _ h => h) (fun W' hSW => ?_) hS ?_
        rotate_left
        ·go_simp; (try with_reducible rfl)
        simp only [Act.put,List.setIfInBounds_toArray,List.set_cons_zero,List.set_cons_succ]
        refine tkUs (fun _ _ _ _ h => h) hS [(10,65),(11,66),(12,67),(13,68),(14,69),(15,70),(16,71),(17,72),(18,73),(19,74),(20,75),(21,76),(22,77),(23,78),(24,79),(25,80),(26,81),(27,82),(28,83)] 1 rfl (by kernel_rfl) ?_
        simp only [skipL,skipP,Act.put,List.setIfInBounds_toArray,List.set_cons_zero,List.set_cons_succ]
        refine tkH (v:=?_) 29 (some 84) rfl rfl (by kernel_rfl) (by kernel_rfl) (fun _ _ _ h => h) (fun W' hSW => ?_) hS ?_
        rotate_left
        ·go_simp; (try with_reducible rfl)
        simp only [Act.put,List.setIfInBounds_toArray,List.set_cons_zero,List.set_cons_succ]
        refine wpAnyH_done (by kernel_rfl) ?_ _
        have HS2:=Aside0.mk (B1.out.drew.trans (hS.mono B1.out.drew.size))
        go_wp2
        go_roundg (l.length - (i + 1))
        case measure => omega
        case rel => exact ⟨i + 1,by first | rfl | (rw [hwi]),by omega,HS2⟩
       | true =>
        have hc1:=c1
        by_cases d1 : p.f2.toList = []
        ·have e1 : (p.f2.toList != ([] : List UInt8)) = false:=by rw [d1]; rfl
         have e2 : (p.f2.toList == ([] : List UInt8)) = true:=by rw [d1]; rfl
         have e3 : p.f2.toList.isEmpty = true:=by rw [d1]; rfl
         have d1':=Aside0.mk d1
         clear d1
         replace hc1:=Aside0.mk hc1
         refine wp_region_held_drew (S:=Below wr.drew.heap.size wr.drew) (by kernel_rfl) (Below.refl _ _) (fun hS => ?_)
         refine tkH (v:=?_) 0 (some 55) rfl rfl (by kernel_rfl) (by kernel_rfl) (fun _ _ _ h => h) (fun W' hSW => ?_) hS ?_
         rotate_left
         ·go_simp; (try with_reducible rfl)
         simp only [Act.put,List.setIfInBounds_toArray,List.set_cons_zero,List.set_cons_succ]
         refine tkH (v:=?_) 1 (some 56) rfl rfl (by kernel_rfl) (by kernel_rfl) (fun _ _ _ h => h) (fun W' hSW => ?_) hS ?_
         rotate_left
         ·go_simp; (try with_reducible rfl)
         simp only [Act.put,List.setIfInBounds_toArray,List.set_cons_zero,List.set_cons_succ]
         refine tkH (v:=?_) 2 (some 57) rfl rfl (by kernel_rfl) (by kernel_rfl) (fun _ _ _ h => h) (fun W' hSW => ?_) hS ?_
         rotate_left
         ·go_simp; (try with_reducible rfl)
         simp only [Act.put,List.setIfInBounds_toArray,List.set_cons_zero,List.set_cons_succ]
         refine tkH (v:=?_) 3 (some 58) rfl rfl (by kernel_rfl) (by kernel_rfl) (fun _ _ _ h => h) (fun W' hSW => ?_) hS ?_
         rotate_left
         ·go_simp; (try with_reducible rfl)
         simp only [Act.put,List.setIfInBounds_toArray,List.set_cons_zero,List.set_cons_succ]
         refine tkH (v:=?_) 4 (some 59) rfl rfl (by kernel_rfl) (by kernel_rfl) (fun _ _ _ h => h) (fun W' hSW => ?_) hS ?_
         rotate_left
         ·have k0:=pw_cell_below ((below_drew (Below.refl _ _)).trans hSW) q0.out; go_simp; (try with_reducible rfl)
         simp only [Act.put,List.setIfInBounds_toArray,List.set_cons_zero,List.set_cons_succ]
         refine tkH (v:=?_) 5 (some 60) rfl rfl (by kernel_rfl) (by kernel_rfl) (fun _ _ _ h => h) (fun W' hSW => ?_) hS ?_
         rotate_left
         ·go_simp; (try with_reducible rfl)
         simp only [Act.put,List.setIfInBounds_toArray,List.set_cons_zero,List.set_cons_succ]
         refine tkH (v:=?_) 6 (some 61) rfl rfl (by kernel_rfl) (by kernel_rfl) (fun _ _ _ h => h) (fun W' hSW => ?_) hS ?_
         rotate_left
         ·have k0:=pw_cell_below ((below_drew (Below.refl _ _)).trans hSW) r1.out; go_simp; (try with_reducible rfl)
         simp only [Act.put,List.setIfInBounds_toArray,List.set_cons_zero,List.set_cons_succ]
         refine wpAnyH_ready (rs:=[7]) (by kernel_rfl) (by simp) (AllReadyH.cons rfl (fun K hK => ?_) AllReadyH.nil)
         go_simp
         refine (hAp1 _).mono ?_
         rintro e W7 ⟨rfl,hb⟩
         have hS:=hS.trans (hb.mono hS.size)
         clear hb
         refine hK.out _ _ hS (fun _ => ?_)
         clear hK K
         refine tkH (v:=?_) 8 (some 63) rfl rfl (by kernel_rfl) (by kernel_rfl) (fun _ _ _ h => h) (fun W' hSW => ?_) hS ?_
         rotate_left
         ·go_simp; (try with_reducible rfl)
         simp only [Act.put,List.setIfInBounds_toArray,List.set_cons_zero,List.set_cons_succ]
         refine tkH (v:=?_) 9 (some 64) rfl rfl (by kernel_rfl) (by kernel_rfl) (fun _ _ _ h => h) (fun W' hSW => ?_) hS ?_
         rotate_left
         ·go_simp; (try with_reducible rfl)
         simp only [Act.put,List.setIfInBounds_toArray,List.set_cons_zero,List.set_cons_succ]
         refine tkH (v:=?_) 10 (some 65) rfl rfl (by kernel_rfl) (by kernel_rfl) (fun _ _ _ h => h) (fun W' hSW => ?_) hS ?_
         rotate_left
         ·go_simp; (try with_reducible rfl)
         simp only [Act.put,List.setIfInBounds_toArray,List.set_cons_zero,List.set_cons_succ]
         refine tkH (v:=?_) 11 (some 66) rfl rfl (by kernel_rfl) (by kernel_rfl) (fun _ _ _ h => h) (fun W' hSW => ?_) hS ?_
         rotate_left
         ·have k0:=pw_cell_below ((below_drew (Below.refl _ _)).trans hSW) r2.out; go_simp; (try with_reducible rfl)
         simp only [Act.put,List.setIfInBounds_toArray,List.set_cons_zero,List.set_cons_succ]
         refine tkH (v:=?_) 12 (some 67) rfl rfl (by kernel_rfl) (by kernel_rfl) (fun _ _ _ h => h) (fun W' hSW => ?_) hS ?_
         rotate_left
         ·go_simp; (try with_reducible rfl)
         simp only [Act.put,List.setIfInBounds_toArray,List.set_cons_zero,List.set_cons_succ]
         refine tkH (v:=?_) 13 (some 68) rfl rfl (by kernel_rfl) (by kernel_rfl) (fun _ _ _ h => h) (fun W' hSW => ?_) hS ?_
         rotate_left
         ·go_simp; (try with_reducible rfl)
         simp only [Act.put,List.setIfInBounds_toArray,List.set_cons_zero,List.set_cons_succ]
         refine tkUs (fun _ _ _ _ h => h) hS [(14,69),(15,70),(16,71)] 13 rfl (by kernel_rfl) ?_
         simp only [skipL,skipP,Act.put,List.setIfInBounds_toArray,List.set_cons_zero,List.set_cons_succ]
         refine tkH (v:=?_) 17 (some 72) rfl rfl (by kernel_rfl) (by kernel_rfl) (fun _ _ _ h => h) (fun W' hSW => ?_) hS ?_
         rotate_left
         ·go_simp; (try with_reducible rfl)
         simp only [Act.put,List.setIfInBounds_toArray,List.set_cons_zero,List.set_cons_succ]
         refine tkH (v:=?_) 18 (some 73) rfl rfl (by kernel_rfl) (by kernel_rfl) (fun _ _ _ h => h) (fun W' hSW => ?_) hS ?_
         rotate_left
         ·go_simp; (try with_reducible rfl)
         simp only [Act.put,List.setIfInBounds_toArray,List.set_cons_zero,List.set_cons_succ]
         refine tkUs (fun _ _ _ _ h => h) hS [(19,74),(20,75),(21,76),(22,77),(23,78),(24,79),(25,80),(26,81),(27,82)] 2 rfl (by kernel_rfl) ?_
         simp only [skipL,skipP,Act.put,List.setIfInBounds_toArray,List.set_cons_zero,List.set_cons_succ]
         refine tkH (v:=?_) 28 (some 83) rfl rfl (by kernel_rfl) (by kernel_rfl) (fun _ _ _ h => h) (fun W' hSW => ?_) hS ?_
         rotate_left
         ·go_simp; (try with_reducible rfl)
         simp only [Act.put,List.setIfInBounds_toArray,List.set_cons_zero,List.set_cons_succ]
         refine tkH (v:=?_) 29 (some 84) rfl rfl (by kernel_rfl) (by kernel_rfl) (fun _ _ _ h => h) (fun W' hSW => ?_) hS ?_
         rotate_left
         ·go_simp; (try with_reducible rfl)
         simp only [Act.put,List.setIfInBounds_toArray,List.set_cons_zero,List.set_cons_succ]
         refine wpAnyH_done (by kernel_rfl) ?_ _
         replace hc1:=hc1.out
         have hfx : findV M x.f0 = some x:=helx hc1 (fun h _ => absurd (toList_nil d1'.out) h)
         have hth : thingAt M x.f0 = x:=by unfold thingAt; rw [hfx]; rfl
         rw [hth,hfx] at hFd
         replace hFd:=Aside0.mk hFd
         clear hth hfx helx hAp1 hAp2
         have hgo : Below w8.heap.size w8 W7:=B1.out.drew.trans (hS.mono B1.out.drew.size)
         clear hS
         obtain ⟨ad',Y',d',he',ry',q0',-,-,-⟩:=ent_at (Kd.C_below hr.out (hw8.trans (hgo.mono hw8.size))) i hlt rfl
         injection he' with he'
         subst he'
         rw [show l.getD i z41 = x by rw [getD_get hlt,hxi.out]] at ry' q0'
         go_wp2_with (fail)
         refine (hFd.out _ hgo).mono ?_
         rintro e v1 ⟨X2,d2,rfl,hd2,hX2,hc2⟩
         clear q0'
         have hW1 : Below w8.heap.size w8 v1:=hgo.trans (hc2.mono hgo.size)
         have hwv1 : Below w.heap.size w v1:=hw8.trans (hW1.mono hw8.size)
         have hcx : ∀ W,Below w.heap.size w W → Kd.C k41 W (some (ad.add (i * 4))) 1 [x]:=fun W h => by
          have h2:=Kd.C_mid (k:=k41) (lo:=i) (hi:=i + 1) (c:=c) (Kd.C_below hr.out h) (by omega) (by omega) hc.out
          have e1 : (l.take (i + 1)).drop i = [x]:=by rw [List.take_succ_eq_append_getElem hlt,List.drop_append_of_le_length (by rw [List.length_take]; omega),List.drop_of_length_le (by rw [List.length_take]; omega),hxi.out]; rfl
          rw [e1,if_neg (by have:=hc.out; omega)] at h2
          exact h2
         obtain ⟨v2,hv2⟩ : ∃ v2,v2 = v1.alloc (.cells #[.string x.f0,.int .i64 x.f1,.slice X2 x.f2.length d2,.string x.f3] 41):=⟨_,rfl⟩
         have hB2 : Below v1.heap.size v1 v2:=by rw [hv2]; exact below_alloc (Below.refl _ _) _
         have xy : v2.heap[v1.heap.size]? = some (.cells #[.string x.f0,.int .i64 x.f1,.slice X2 x.f2.length d2,.string x.f3] 41 (0,0)):=by rw [hv2]; exact blk_new _ _
         have hT1 : Below v1.heap.size v1 (v2.drew.alloc (.cells #[.string x.f0,.int .i64 x.f1,.slice X2 x.f2.length d2,.string x.f3] 41)):=(hB2.drew).alloc (by have:=hB2.size; simpa using this) _
         have hSm:=sameE_at [x] (by show 1 ≤ _; decide) (fun z hz => by rw [List.mem_singleton.1 hz]; exact hxn.out) (some ⟨v2.drew.heap.size,0,none⟩) 1 (some (ad.add (i * 4))) (c - i) (v2.drew.alloc (.cells #[.string x.f0,.int .i64 x.f1,.slice X2 x.f2.length d2,.string x.f3] 41)) (entC (blk_new v2.drew (.cells #[.string x.f0,.int .i64 x.f1,.slice X2 x.f2.length d2,.string x.f3] 41)) (Kd.C_below hX2 hT1) hd2) (by show 1 ≤ _; decide) (hcx _ (hwv1.trans (hT1.mono hwv1.size))) (by have:=hc.out; show 1 ≤ _; omega)
         have hkp : Below w8.heap.size w8 (v2.drew.alloc (.cells #[.string x.f0,.int .i64 x.f1,.slice X2 x.f2.length d2,.string x.f3] 41)):=hW1.trans (hT1.mono hW1.size)
         replace hSm:=Aside0.mk hSm
         replace hkp:=Aside0.mk hkp
         have xyA:=Aside0.mk xy
         have hle1 : (i : Int) ≤ ((i + 1 : Nat) : Int):=by omega
         have hle2 : ((i + 1 : Nat) : Int) ≤ (c : Int):=by have:=hc.out; omega
         have hci : (c = i) = False:=eq_false (by have:=hc.out; omega)
         have hle3 : (0 ≤ (i : Int) + 1 ∧ (i : Int) + 1 ≤ (c : Int)) = True:=eq_true ⟨by omega,by have:=hc.out; omega⟩
         clear hcx hB2 hT1 hX2 hd2 xy hc2
         go_upto_region 17 with (fail)
         rw [← hv2]
         clear hv2
         refine wp_region_held_drew (S:=Below v2.drew.heap.size v2.drew) (by kernel_rfl) (Below.refl _ _) (fun hS => ?_)
         refine tkH (v:=?_) 0 (some 95) rfl rfl (by kernel_rfl) (by kernel_rfl) (fun _ _ _ h => h) (fun W' hSW => ?_) hS ?_
         rotate_left
         ·go_simp; (try with_reducible rfl)
         simp only [Act.put,List.setIfInBounds_toArray,List.set_cons_zero,List.set_cons_succ]
         refine tkH (v:=?_) 1 (some 96) rfl rfl (by kernel_rfl) (by kernel_rfl) (fun _ _ _ h => h) (fun W' hSW => ?_) hS ?_
         rotate_left
         ·go_simp; (try with_reducible rfl)
         simp only [Act.put,List.setIfInBounds_toArray,List.set_cons_zero,List.set_cons_succ]
         refine tkH (v:=?_) 2 (some 97) rfl rfl (by kernel_rfl) (by kernel_rfl) (fun _ _ _ h => h) (fun W' hSW => ?_) hS ?_
         rotate_left
         ·go_simp; (try with_reducible rfl)
         simp only [Act.put,List.setIfInBounds_toArray,List.set_cons_zero,List.set_cons_succ]
         refine tkH (v:=?_) 3 (some 98) rfl rfl (by kernel_rfl) (by kernel_rfl) (fun _ _ _ h => h) (fun W' hSW => ?_) hS ?_
         rotate_left
         ·obtain ⟨k0,k1,k2,k3⟩:=cells4 (blk_below (blk_drew xyA.out) hSW); go_simp; (try with_reducible rfl)
         simp only [Act.put,List.setIfInBounds_toArray,List.set_cons_zero,List.set_cons_succ]
         refine tkH (v:=?_) 5 (some 100) rfl rfl (by kernel_rfl) (by kernel_rfl) (fun _ _ _ h => h) (fun W' hSW => ?_) hS ?_
         rotate_left
         ·go_simp; (try with_reducible rfl)
         simp only [Act.put,List.setIfInBounds_toArray,List.set_cons_zero,List.set_cons_succ]
         refine tkH (v:=?_) 6 (some 101) rfl rfl (by kernel_rfl) (by kernel_rfl) (fun _ _ _ h => h) (fun W' hSW => ?_) hS ?_
         rotate_left
         ·go_simp; (try with_reducible rfl)
         simp only [Act.put,List.setIfInBounds_toArray,List.set_cons_zero,List.set_cons_succ]
         refine tkH (v:=?_) 7 (some 102) rfl rfl (by kernel_rfl) (by kernel_rfl) (fun _ _ _ h => h) (fun W' hSW => ?_) hS ?_
         rotate_left
         ·go_simp; (try with_reducible rfl)
         simp only [Act.put,List.setIfInBounds_toArray,List.set_cons_zero,List.set_cons_succ]
         refine tkH (v:=?_) 8 (some 103) rfl rfl (by kernel_rfl) (by kernel_rfl) (fun _ _ _ h => h) (fun W' hSW => ?_) hS ?_
         rotate_left
         ·go_simp; (try with_reducible rfl)
         simp only [Act.put,List.setIfInBounds_toArray,List.set_cons_zero,List.set_cons_succ]
         refine tkH (v:=?_) 9 (some 104) rfl rfl (by kernel_rfl) (by kernel_rfl) (fun _ _ _ h => h) (fun W' hSW => ?_) hS ?_
         rotate_left
         ·go_simp; (try with_reducible rfl)
         simp only [Act.put,List.setIfInBounds_toArray,List.set_cons_zero,List.set_cons_succ]
         refine wpAnyH_ready (rs:=[4]) (by kernel_rfl) (by simp) (AllReadyH.cons rfl (fun K hK => ?_) AllReadyH.nil)
         go_simp
         refine hK.out _ _ (below_alloc hS _) (fun _ => ?_)
         clear hK K
         refine wpAnyH_ready (rs:=[10]) (by kernel_rfl) (by simp) (AllReadyH.cons rfl (fun K hK => ?_) AllReadyH.nil)
         go_simp
         refine hSm.out.mono ?_
         rintro e W10 ⟨rfl,hb⟩
         have hS2 : Below v2.drew.heap.size v2.drew W10:=two_steps (below_alloc (Below.refl _ _) _) hb
         refine hK.out _ _ hS2 (fun _ => ?_)
         clear hK K
         refine tkH (v:=?_) 11 (some 106) rfl rfl (by kernel_rfl) (by kernel_rfl) (fun _ _ _ h => h) (fun W' hSW => ?_) hS2 ?_
         rotate_left
         ·go_simp; (try with_reducible rfl)
         simp only [Act.put,List.setIfInBounds_toArray,List.set_cons_zero,List.set_cons_succ]
         refine tkH (v:=?_) 12 (some 107) rfl rfl (by kernel_rfl) (by kernel_rfl) (fun _ _ _ h => h) (fun W' hSW => ?_) hS2 ?_
         rotate_left
         ·go_simp; (try with_reducible rfl)
         simp only [Act.put,List.setIfInBounds_toArray,List.set_cons_zero,List.set_cons_succ]
         refine wpAnyH_done (by kernel_rfl) ?_ _
         have hfin:=Aside0.mk (hkp.out.trans (hb.mono hkp.out.size))
         go_wp2
         go_roundg (l.length - (i + 1))
         case measure => omega
         case rel => exact ⟨i + 1,by first | rfl | (rw [hwi]),by omega,hfin⟩
        ·have e1 : (p.f2.toList != ([] : List UInt8)) = true:=by rw [bne_iff_ne]; exact d1
         have e2 : (p.f2.toList == ([] : List UInt8)) = false:=by rw [beq_eq_false_iff_ne]; exact d1
         have e3 : p.f2.toList.isEmpty = false:=by cases h : p.f2.toList with | nil => exact absurd h d1 | cons a b => rfl
         replace d1:=Aside0.mk d1
         replace hc1:=Aside0.mk hc1
         by_cases h10 : p.f0 = 10
         ·have f1 : (p.f0 == 10) = true:=by rw [h10]; rfl
          replace h10:=Aside0.mk h10
          cases c2 : apartB x.f0 p.f2 with
          | false =>
           refine wp_region_held_drew (S:=Below wr.drew.heap.size wr.drew) (by kernel_rfl) (Below.refl _ _) (fun hS => ?_)
           refine tkH (v:=?_) 0 (some 55) rfl rfl (by kernel_rfl) (by kernel_rfl) (fun _ _ _ h => h) (fun W' hSW => ?_) hS ?_
           rotate_left
           ·go_simp; (try with_reducible rfl)
           simp only [Act.put,List.setIfInBounds_toArray,List.set_cons_zero,List.set_cons_succ]
           refine tkH (v:=?_) 1 (some 56) rfl rfl (by kernel_rfl) (by kernel_rfl) (fun _ _ _ h => h) (fun W' hSW => ?_) hS ?_
           rotate_left
           ·go_simp; (try with_reducible rfl)
           simp only [Act.put,List.setIfInBounds_toArray,List.set_cons_zero,List.set_cons_succ]
           refine tkH (v:=?_) 2 (some 57) rfl rfl (by kernel_rfl) (by kernel_rfl) (fun _ _ _ h => h) (fun W' hSW => ?_) hS ?_
           rotate_left
           ·go_simp; (try with_reducible rfl)
           simp only [Act.put,List.setIfInBounds_toArray,List.set_cons_zero,List.set_cons_succ]
           refine tkH (v:=?_) 3 (some 58) rfl rfl (by kernel_rfl) (by kernel_rfl) (fun _ _ _ h => h) (fun W' hSW => ?_) hS ?_
           rotate_left
           ·go_simp; (try with_reducible rfl)
           simp only [Act.put,List.setIfInBounds_toArray,List.set_cons_zero,List.set_cons_succ]
           refine tkH (v:=?_) 4 (some 59) rfl rfl (by kernel_rfl) (by kernel_rfl) (fun _ _ _ h => h) (fun W' hSW => ?_) hS ?_
           rotate_left
           ·have k0:=pw_cell_below ((below_drew (Below.refl _ _)).trans hSW) q0.out; go_simp; (try with_reducible rfl)
           simp only [Act.put,List.setIfInBounds_toArray,List.set_cons_zero,List.set_cons_succ]
           refine tkH (v:=?_) 5 (some 60) rfl rfl (by kernel_rfl) (by kernel_rfl) (fun _ _ _ h => h) (fun W' hSW => ?_) hS ?_
           rotate_left
           ·go_simp; (try with_reducible rfl)
           simp only [Act.put,List.setIfInBounds_toArray,List.set_cons_zero,List.set_cons_succ]
           refine tkH (v:=?_) 6 (some 61) rfl rfl (by kernel_rfl) (by kernel_rfl) (fun _ _ _ h => h) (fun W' hSW => ?_) hS ?_
           rotate_left
           ·have k0:=pw_cell_below ((below_drew (Below.refl _ _)).trans hSW) r1.out; go_simp; (try with_reducible rfl)
           simp only [Act.put,List.setIfInBounds_toArray,List.set_cons_zero,List.set_cons_succ]
           refine wpAnyH_ready (rs:=[7]) (by kernel_rfl) (by simp) (AllReadyH.cons rfl (fun K hK => ?_) AllReadyH.nil)
           go_simp
           refine (hAp1 _).mono ?_
           rintro e W7 ⟨rfl,hb⟩
           have hS:=hS.trans (hb.mono hS.size)
           clear hb
           refine hK.out _ _ hS (fun _ => ?_)
           clear hK K
           refine tkH (v:=?_) 8 (some 63) rfl rfl (by kernel_rfl) (by kernel_rfl) (fun _ _ _ h => h) (fun W' hSW => ?_) hS ?_
           rotate_left
           ·go_simp; (try with_reducible rfl)
           simp only [Act.put,List.setIfInBounds_toArray,List.set_cons_zero,List.set_cons_succ]
           refine tkH (v:=?_) 9 (some 64) rfl rfl (by kernel_rfl) (by kernel_rfl) (fun _ _ _ h => h) (fun W' hSW => ?_) hS ?_
           rotate_left
           ·go_simp; (try with_reducible rfl)
           simp only [Act.put,List.setIfInBounds_toArray,List.set_cons_zero,List.set_cons_succ]
           refine tkH (v:=?_) 10 (some 65) rfl rfl (by kernel_rfl) (by kernel_rfl) (fun _ _ _ h => h) (fun W' hSW => ?_) hS ?_
           rotate_left
           ·go_simp; (try with_reducible rfl)
           simp only [Act.put,List.setIfInBounds_toArray,List.set_cons_zero,List.set_cons_succ]
           refine tkH (v:=?_) 11 (some 66) rfl rfl (by kernel_rfl) (by kernel_rfl) (fun _ _ _ h => h) (fun W' hSW => ?_) hS ?_
           rotate_left
           ·have k0:=pw_cell_below ((below_drew (Below.refl _ _)).trans hSW) r2.out; go_simp; (try with_reducible rfl)
           simp only [Act.put,List.setIfInBounds_toArray,List.set_cons_zero,List.set_cons_succ]
           refine tkH (v:=?_) 12 (some 67) rfl rfl (by kernel_rfl) (by kernel_rfl) (fun _ _ _ h => h) (fun W' hSW => ?_) hS ?_
           rotate_left
           ·go_simp; (try with_reducible rfl)
           simp only [Act.put,List.setIfInBounds_toArray,List.set_cons_zero,List.set_cons_succ]
           refine tkH (v:=?_) 13 (some 68) rfl rfl (by kernel_rfl) (by kernel_rfl) (fun _ _ _ h => h) (fun W' hSW => ?_) hS ?_
           rotate_left
           ·go_simp; (try with_reducible rfl)
           simp only [Act.put,List.setIfInBounds_toArray,List.set_cons_zero,List.set_cons_succ]
           refine tkH (v:=?_) 14 (some 69) rfl rfl (by kernel_rfl) (by kernel_rfl) (fun _ _ _ h => h) (fun W' hSW => ?_) hS ?_
           rotate_left
           ·go_simp; (try with_reducible rfl)
           simp only [Act.put,List.setIfInBounds_toArray,List.set_cons_zero,List.set_cons_succ]
           refine tkH (v:=?_) 15 (some 70) rfl rfl (by kernel_rfl) (by kernel_rfl) (fun _ _ _ h => h) (fun W' hSW => ?_) hS ?_
           rotate_left
           ·have k0:=pw_cell_below ((below_drew (Below.refl _ _)).trans hSW) r0.out; go_simp; (try with_reducible rfl)
           simp only [Act.put,List.setIfInBounds_toArray,List.set_cons_zero,List.set_cons_succ]
           refine tkH (v:=?_) 16 (some 71) rfl rfl (by kernel_rfl) (by kernel_rfl) (fun _ _ _ h => h) (fun W' hSW => ?_) hS ?_
           rotate_left
           ·go_simp; (try with_reducible rfl)
           simp only [Act.put,List.setIfInBounds_toArray,List.set_cons_zero,List.set_cons_succ]
           refine tkH (v:=?_) 17 (some 72) rfl rfl (by kernel_rfl) (by kernel_rfl) (fun _ _ _ h => h) (fun W' hSW => ?_) hS ?_
           rotate_left
           ·go_simp; (try with_reducible rfl)
           simp only [Act.put,List.setIfInBounds_toArray,List.set_cons_zero,List.set_cons_succ]
           refine tkH (v:=?_) 18 (some 73) rfl rfl (by kernel_rfl) (by kernel_rfl) (fun _ _ _ h => h) (fun W' hSW => ?_) hS ?_
           rotate_left
           ·go_simp; (try with_reducible rfl)
           simp only [Act.put,List.setIfInBounds_toArray,List.set_cons_zero,List.set_cons_succ]
           refine tkH (v:=?_) 19 (some 74) rfl rfl (by kernel_rfl) (by kernel_rfl) (fun _ _ _ h => h) (fun W' hSW => ?_) hS ?_
           rotate_left
           ·go_simp; (try with_reducible rfl)
           simp only [Act.put,List.setIfInBounds_toArray,List.set_cons_zero,List.set_cons_succ]
           refine tkH (v:=?_) 20 (some 75) rfl rfl (by kernel_rfl) (by kernel_rfl) (fun _ _ _ h => h) (fun W' hSW => ?_) hS ?_
           rotate_left
           ·go_simp; (try with_reducible rfl)
           simp only [Act.put,List.setIfInBounds_toArray,List.set_cons_zero,List.set_cons_succ]
           refine tkH (v:=?_) 21 (some 76) rfl rfl (by kernel_rfl) (by kernel_rfl) (fun _ _ _ h => h) (fun W' hSW => ?_) hS ?_
           rotate_left
           ·go_simp; (try with_reducible rfl)
           simp only [Act.put,List.setIfInBounds_toArray,List.set_cons_zero,List.set_cons_succ]
           refine tkH (v:=?_) 22 (some 77) rfl rfl (by kernel_rfl) (by kernel_rfl) (fun _ _ _ h => h) (fun W' hSW => ?_) hS ?_
           rotate_left
           ·go_simp; (try with_reducible rfl)
           simp only [Act.put,List.setIfInBounds_toArray,List.set_cons_zero,List.set_cons_succ]
           refine tkH (v:=?_) 23 (some 78) rfl rfl (by kernel_rfl) (by kernel_rfl) (fun _ _ _ h => h) (fun W' hSW => ?_) hS ?_
           rotate_left
           ·have k0:=pw_cell_below ((below_drew (Below.refl _ _)).trans hSW) q0.out; go_simp; (try with_reducible rfl)
           simp only [Act.put,List.setIfInBounds_toArray,List.set_cons_zero,List.set_cons_succ]
           refine tkH (v:=?_) 24 (some 79) rfl rfl (by kernel_rfl) (by kernel_rfl) (fun _ _ _ h => h) (fun W' hSW => ?_) hS ?_
           rotate_left
           ·go_simp; (try with_reducible rfl)
           simp only [Act.put,List.setIfInBounds_toArray,List.set_cons_zero,List.set_cons_succ]
           refine tkH (v:=?_) 25 (some 80) rfl rfl (by kernel_rfl) (by kernel_rfl) (fun _ _ _ h => h) (fun W' hSW => ?_) hS ?_
           rotate_left
           ·have k0:=pw_cell_below ((below_drew (Below.refl _ _)).trans hSW) r2.out; go_simp; (try with_reducible rfl)
           simp only [Act.put,List.setIfInBounds_toArray,List.set_cons_zero,List.set_cons_succ]
           refine wpAnyH_ready (rs:=[26]) (by kernel_rfl) (by simp) (AllReadyH.cons rfl (fun K hK => ?_) AllReadyH.nil)
           go_simp
           refine (hAp2 _).mono ?_
           rintro e W26 ⟨rfl,hb⟩
           have hS:=hS.trans (hb.mono hS.size)
           clear hb
           refine hK.out _ _ hS (fun _ => ?_)
           clear hK K
           refine tkH (v:=?_) 27 (some 82) rfl rfl (by kernel_rfl) (by kernel_rfl) (fun _ _ _ h => h) (fun W' hSW => ?_) hS ?_
           rotate_left
           ·go_simp; (try with_reducible rfl)
           simp only [Act.put,List.setIfInBounds_toArray,List.set_cons_zero,List.set_cons_succ]
           refine tkH (v:=?_) 28 (some 83) rfl rfl (by kernel_rfl) (by kernel_rfl) (fun _ _ _ h => h) (fun W' hSW => ?_) hS ?_
           rotate_left
           ·go_simp; (try with_reducible rfl)
           simp only [Act.put,List.setIfInBounds_toArray,List.set_cons_zero,List.set_cons_succ]
           refine tkH (v:=?_) 29 (some 84) rfl rfl (by kernel_rfl) (by kernel_rfl) (fun _ _ _ h => h) (fun W' hSW => ?_) hS ?_
           rotate_left
           ·go_simp; (try with_reducible rfl)
           simp only [Act.put,List.setIfInBounds_toArray,List.set_cons_zero,List.set_cons_succ]
           refine wpAnyH_done (by kernel_rfl) ?_ _
           have HS2:=Aside0.mk (B1.out.drew.trans (hS.mono B1.out.drew.size))
           go_wp2
           go_roundg (l.length - (i + 1))
           case measure => omega
           case rel => exact ⟨i + 1,by first | rfl | (rw [hwi]),by omega,HS2⟩
          | true =>
           have hc2:=Aside0.mk c2
           refine wp_region_held_drew (S:=Below wr.drew.heap.size wr.drew) (by kernel_rfl) (Below.refl _ _) (fun hS => ?_)
           refine tkH (v:=?_) 0 (some 55) rfl rfl (by kernel_rfl) (by kernel_rfl) (fun _ _ _ h => h) (fun W' hSW => ?_) hS ?_
           rotate_left
           ·go_simp; (try with_reducible rfl)
           simp only [Act.put,List.setIfInBounds_toArray,List.set_cons_zero,List.set_cons_succ]
           refine tkH (v:=?_) 1 (some 56) rfl rfl (by kernel_rfl) (by kernel_rfl) (fun _ _ _ h => h) (fun W' hSW => ?_) hS ?_
           rotate_left
           ·go_simp; (try with_reducible rfl)
           simp only [Act.put,List.setIfInBounds_toArray,List.set_cons_zero,List.set_cons_succ]
           refine tkH (v:=?_) 2 (some 57) rfl rfl (by kernel_rfl) (by kernel_rfl) (fun _ _ _ h => h) (fun W' hSW => ?_) hS ?_
           rotate_left
           ·go_simp; (try with_reducible rfl)
           simp only [Act.put,List.setIfInBounds_toArray,List.set_cons_zero,List.set_cons_succ]
           refine tkH (v:=?_) 3 (some 58) rfl rfl (by kernel_rfl) (by kernel_rfl) (fun _ _ _ h => h) (fun W' hSW => ?_) hS ?_
           rotate_left
           ·go_simp; (try with_reducible rfl)
           simp only [Act.put,List.setIfInBounds_toArray,List.set_cons_zero,List.set_cons_succ]
           refine tkH (v:=?_) 4 (some 59) rfl rfl (by kernel_rfl) (by kernel_rfl) (fun _ _ _ h => h) (fun W' hSW => ?_) hS ?_
           rotate_left
           ·have k0:=pw_cell_below ((below_drew (Below.refl _ _)).trans hSW) q0.out; go_simp; (try with_reducible rfl)
           simp only [Act.put,List.setIfInBounds_toArray,List.set_cons_zero,List.set_cons_succ]
           refine tkH (v:=?_) 5 (some 60) rfl rfl (by kernel_rfl) (by kernel_rfl) (fun _ _ _ h => h) (fun W' hSW => ?_) hS ?_
           rotate_left
           ·go_simp; (try with_reducible rfl)
           simp only [Act.put,List.setIfInBounds_toArray,List.set_cons_zero,List.set_cons_succ]
           refine tkH (v:=?_) 6 (some 61) rfl rfl (by kernel_rfl) (by kernel_rfl) (fun _ _ _ h => h) (fun W' hSW => ?_) hS ?_
           rotate_left
           ·have k0:=pw_cell_below ((below_drew (Below.refl _ _)).trans hSW) r1.out; go_simp; (try with_reducible rfl)
           simp only [Act.put,List.setIfInBounds_toArray,List.set_cons_zero,List.set_cons_succ]
           refine wpAnyH_ready (rs:=[7]) (by kernel_rfl) (by simp) (AllReadyH.cons rfl (fun K hK => ?_) AllReadyH.nil)
           go_simp
           refine (hAp1 _).mono ?_
           rintro e W7 ⟨rfl,hb⟩
           have hS:=hS.trans (hb.mono hS.size)
           clear hb
           refine hK.out _ _ hS (fun _ => ?_)
           clear hK K
           refine tkH (v:=?_) 8 (some 63) rfl rfl (by kernel_rfl) (by kernel_rfl) (fun _ _ _ h => h) (fun W' hSW => ?_) hS ?_
           rotate_left
           ·go_simp; (try with_reducible rfl)
           simp only [Act.put,List.setIfInBounds_toArray,List.set_cons_zero,List.set_cons_succ]
           refine tkH (v:=?_) 9 (some 64) rfl rfl (by kernel_rfl) (by kernel_rfl) (fun _ _ _ h => h) (fun W' hSW => ?_) hS ?_
           rotate_left
           ·go_simp; (try with_reducible rfl)
           simp only [Act.put,List.setIfInBounds_toArray,List.set_cons_zero,List.set_cons_succ]
           refine tkH (v:=?_) 10 (some 65) rfl rfl (by kernel_rfl) (by kernel_rfl) (fun _ _ _ h => h) (fun W' hSW => ?_) hS ?_
           rotate_left
           ·go_simp; (try with_reducible rfl)
           simp only [Act.put,List.setIfInBounds_toArray,List.set_cons_zero,List.set_cons_succ]
           refine tkH (v:=?_) 11 (some 66) rfl rfl (by kernel_rfl) (by kernel_rfl) (fun _ _ _ h => h) (fun W' hSW => ?_) hS ?_
           rotate_left
           ·have k0:=pw_cell_below ((below_drew (Below.refl _ _)).trans hSW) r2.out; go_simp; (try with_reducible rfl)
           simp only [Act.put,List.setIfInBounds_toArray,List.set_cons_zero,List.set_cons_succ]
           refine tkH (v:=?_) 12 (some 67) rfl rfl (by kernel_rfl) (by kernel_rfl) (fun _ _ _ h => h) (fun W' hSW => ?_) hS ?_
           rotate_left
           ·go_simp; (try with_reducible rfl)
           simp only [Act.put,List.setIfInBounds_toArray,List.set_cons_zero,List.set_cons_succ]
           refine tkH (v:=?_) 13 (some 68) rfl rfl (by kernel_rfl) (by kernel_rfl) (fun _ _ _ h => h) (fun W' hSW => ?_) hS ?_
           rotate_left
           ·go_simp; (try with_reducible rfl)
           simp only [Act.put,List.setIfInBounds_toArray,List.set_cons_zero,List.set_cons_succ]
           refine tkH (v:=?_) 14 (some 69) rfl rfl (by kernel_rfl) (by kernel_rfl) (fun _ _ _ h => h) (fun W' hSW => ?_) hS ?_
           rotate_left
           ·go_simp; (try with_reducible rfl)
           simp only [Act.put,List.setIfInBounds_toArray,List.set_cons_zero,List.set_cons_succ]
           refine tkH (v:=?_) 15 (some 70) rfl rfl (by kernel_rfl) (by kernel_rfl) (fun _ _ _ h => h) (fun W' hSW => ?_) hS ?_
           rotate_left
           ·have k0:=pw_cell_below ((below_drew (Below.refl _ _)).trans hSW) r0.out; go_simp; (try with_reducible rfl)
           simp only [Act.put,List.setIfInBounds_toArray,List.set_cons_zero,List.set_cons_succ]
           refine tkH (v:=?_) 16 (some 71) rfl rfl (by kernel_rfl) (by kernel_rfl) (fun _ _ _ h => h) (fun W' hSW => ?_) hS ?_
           rotate_left
           ·go_simp; (try with_reducible rfl)
           simp only [Act.put,List.setIfInBounds_toArray,List.set_cons_zero,List.set_cons_succ]
           refine tkH (v:=?_) 17 (some 72) rfl rfl (by kernel_rfl) (by kernel_rfl) (fun _ _ _ h => h) (fun W' hSW => ?_) hS ?_
           rotate_left
           ·go_simp; (try with_reducible rfl)
           simp only [Act.put,List.setIfInBounds_toArray,List.set_cons_zero,List.set_cons_succ]
           refine tkH (v:=?_) 18 (some 73) rfl rfl (by kernel_rfl) (by kernel_rfl) (fun _ _ _ h => h) (fun W' hSW => ?_) hS ?_
           rotate_left
           ·go_simp; (try with_reducible rfl)
           simp only [Act.put,List.setIfInBounds_toArray,List.set_cons_zero,List.set_cons_succ]
           refine tkH (v:=?_) 19 (some 74) rfl rfl (by kernel_rfl) (by kernel_rfl) (fun _ _ _ h => h) (fun W' hSW => ?_) hS ?_
           rotate_left
           ·go_simp; (try with_reducible rfl)
           simp only [Act.put,List.setIfInBounds_toArray,List.set_cons_zero,List.set_cons_succ]
           refine tkH (v:=?_) 20 (some 75) rfl rfl (by kernel_rfl) (by kernel_rfl) (fun _ _ _ h => h) (fun W' hSW => ?_) hS ?_
           rotate_left
           ·go_simp; (try with_reducible rfl)
           simp only [Act.put,List.setIfInBounds_toArray,List.set_cons_zero,List.set_cons_succ]
           refine tkH (v:=?_) 21 (some 76) rfl rfl (by kernel_rfl) (by kernel_rfl) (fun _ _ _ h => h) (fun W' hSW => ?_) hS ?_
           rotate_left
           ·go_simp; (try with_reducible rfl)
           simp only [Act.put,List.setIfInBounds_toArray,List.set_cons_zero,List.set_cons_succ]
           refine tkH (v:=?_) 22 (some 77) rfl rfl (by kernel_rfl) (by kernel_rfl) (fun _ _ _ h => h) (fun W' hSW => ?_) hS ?_
           rotate_left
           ·go_simp; (try with_reducible rfl)
           simp only [Act.put,List.setIfInBounds_toArray,List.set_cons_zero,List.set_cons_succ]
           refine tkH (v:=?_) 23 (some 78) rfl rfl (by kernel_rfl) (by kernel_rfl) (fun _ _ _ h => h) (fun W' hSW => ?_) hS ?_
           rotate_left
           ·have k0:=pw_cell_below ((below_drew (Below.refl _ _)).trans hSW) q0.out; go_simp; (try with_reducible rfl)
           simp only [Act.put,List.setIfInBounds_toArray,List.set_cons_zero,List.set_cons_succ]
           refine tkH (v:=?_) 24 (some 79) rfl rfl (by kernel_rfl) (by kernel_rfl) (fun _ _ _ h => h) (fun W' hSW => ?_) hS ?_
           rotate_left
           ·go_simp; (try with_reducible rfl)
           simp only [Act.put,List.setIfInBounds_toArray,List.set_cons_zero,List.set_cons_succ]
           refine tkH (v:=?_) 25 (some 80) rfl rfl (by kernel_rfl) (by kernel_rfl) (fun _ _ _ h => h) (fun W' hSW => ?_) hS ?_
           rotate_left
           ·have k0:=pw_cell_below ((below_drew (Below.refl _ _)).trans hSW) r2.out; go_simp; (try with_reducible rfl)
           simp only [Act.put,List.setIfInBounds_toArray,List.set_cons_zero,List.set_cons_succ]
           refine wpAnyH_ready (rs:=[26]) (by kernel_rfl) (by simp) (AllReadyH.cons rfl (fun K hK => ?_) AllReadyH.nil)
           go_simp
           refine (hAp2 _).mono ?_
           rintro e W26 ⟨rfl,hb⟩
           have hS:=hS.trans (hb.mono hS.size)
           clear hb
           refine hK.out _ _ hS (fun _ => ?_)
           clear hK K
           refine tkH (v:=?_) 27 (some 82) rfl rfl (by kernel_rfl) (by kernel_rfl) (fun _ _ _ h => h) (fun W' hSW => ?_) hS ?_
           rotate_left
           ·go_simp; (try with_reducible rfl)
           simp only [Act.put,List.setIfInBounds_toArray,List.set_cons_zero,List.set_cons_succ]
           refine tkH (v:=?_) 28 (some 83) rfl rfl (by kernel_rfl) (by kernel_rfl) (fun _ _ _ h => h) (fun W' hSW => ?_) hS ?_
           rotate_left
           ·go_simp; (try with_reducible rfl)
           simp only [Act.put,List.setIfInBounds_toArray,List.set_cons_zero,List.set_cons_succ]
           refine tkH (v:=?_) 29 (some 84) rfl rfl (by kernel_rfl) (by kernel_rfl) (fun _ _ _ h => h) (fun W' hSW => ?_) hS ?_
           rotate_left
           ·go_simp; (try with_reducible rfl)
           simp only [Act.put,List.setIfInBounds_toArray,List.set_cons_zero,List.set_cons_succ]
           refine wpAnyH_done (by kernel_rfl) ?_ _
           replace hc1:=hc1.out
           have hfx : findV M x.f0 = some x:=helx hc1 (fun _ _ => hc2.out)
           have hth : thingAt M x.f0 = x:=by unfold thingAt; rw [hfx]; rfl
           rw [hth,hfx] at hFd
           replace hFd:=Aside0.mk hFd
           clear hth hfx helx hAp1 hAp2
           have hgo : Below w8.heap.size w8 W26:=B1.out.drew.trans (hS.mono B1.out.drew.size)
           clear hS
           obtain ⟨ad',Y',d',he',ry',q0',-,-,-⟩:=ent_at (Kd.C_below hr.out (hw8.trans (hgo.mono hw8.size))) i hlt rfl
           injection he' with he'
           subst he'
           rw [show l.getD i z41 = x by rw [getD_get hlt,hxi.out]] at ry' q0'
           go_wp2_with (fail)
           refine (hFd.out _ hgo).mono ?_
           rintro e v1 ⟨X2,d2,rfl,hd2,hX2,hc2⟩
           clear q0'
           have hW1 : Below w8.heap.size w8 v1:=hgo.trans (hc2.mono hgo.size)
           have hwv1 : Below w.heap.size w v1:=hw8.trans (hW1.mono hw8.size)
           have hcx : ∀ W,Below w.heap.size w W → Kd.C k41 W (some (ad.add (i * 4))) 1 [x]:=fun W h => by
            have h2:=Kd.C_mid (k:=k41) (lo:=i) (hi:=i + 1) (c:=c) (Kd.C_below hr.out h) (by omega) (by omega) hc.out
            have e1 : (l.take (i + 1)).drop i = [x]:=by rw [List.take_succ_eq_append_getElem hlt,List.drop_append_of_le_length (by rw [List.length_take]; omega),List.drop_of_length_le (by rw [List.length_take]; omega),hxi.out]; rfl
            rw [e1,if_neg (by have:=hc.out; omega)] at h2
            exact h2
           obtain ⟨v2,hv2⟩ : ∃ v2,v2 = v1.alloc (.cells #[.string x.f0,.int .i64 x.f1,.slice X2 x.f2.length d2,.string x.f3] 41):=⟨_,rfl⟩
           have hB2 : Below v1.heap.size v1 v2:=by rw [hv2]; exact below_alloc (Below.refl _ _) _
           have xy : v2.heap[v1.heap.size]? = some (.cells #[.string x.f0,.int .i64 x.f1,.slice X2 x.f2.length d2,.string x.f3] 41 (0,0)):=by rw [hv2]; exact blk_new _ _
           have hT1 : Below v1.heap.size v1 (v2.drew.alloc (.cells #[.string x.f0,.int .i64 x.f1,.slice X2 x.f2.length d2,.string x.f3] 41)):=(hB2.drew).alloc (by have:=hB2.size; simpa using this) _
           have hSm:=sameE_at [x] (by show 1 ≤ _; decide) (fun z hz => by rw [List.mem_singleton.1 hz]; exact hxn.out) (some ⟨v2.drew.heap.size,0,none⟩) 1 (some (ad.add (i * 4))) (c - i) (v2.drew.alloc (.cells #[.string x.f0,.int .i64 x.f1,.slice X2 x.f2.length d2,.string x.f3] 41)) (entC (blk_new v2.drew (.cells #[.string x.f0,.int .i64 x.f1,.slice X2 x.f2.length d2,.string x.f3] 41)) (Kd.C_below hX2 hT1) hd2) (by show 1 ≤ _; decide) (hcx _ (hwv1.trans (hT1.mono hwv1.size))) (by have:=hc.out; show 1 ≤ _; omega)
           have hkp : Below w8.heap.size w8 (v2.drew.alloc (.cells #[.string x.f0,.int .i64 x.f1,.slice X2 x.f2.length d2,.string x.f3] 41)):=hW1.trans (hT1.mono hW1.size)
           replace hSm:=Aside0.mk hSm
           replace hkp:=Aside0.mk hkp
           have xyA:=Aside0.mk xy
           have hle1 : (i : Int) ≤ ((i + 1 : Nat) : Int):=by omega
           have hle2 : ((i + 1 : Nat) : Int) ≤ (c : Int):=by have:=hc.out; omega
           have hci : (c = i) = False:=eq_false (by have:=hc.out; omega)
           have hle3 : (0 ≤ (i : Int) + 1 ∧ (i : Int) + 1 ≤ (c : Int)) = True:=eq_true ⟨by omega,by have:=hc.out; omega⟩
           clear hcx hB2 hT1 hX2 hd2 xy hc2
           go_upto_region 17 with (fail)
           rw [← hv2]
           clear hv2
           refine wp_region_held_drew (S:=Below v2.drew.heap.size v2.drew) (by kernel_rfl) (Below.refl _ _) (fun hS => ?_)
           refine tkH (v:=?_) 0 (some 95) rfl rfl (by kernel_rfl) (by kernel_rfl) (fun _ _ _ h => h) (fun W' hSW => ?_) hS ?_
           rotate_left
           ·go_simp; (try with_reducible rfl)
           simp only [Act.put,List.setIfInBounds_toArray,List.set_cons_zero,List.set_cons_succ]
           refine tkH (v:=?_) 1 (some 96) rfl rfl (by kernel_rfl) (by kernel_rfl) (fun _ _ _ h => h) (fun W' hSW => ?_) hS ?_
           rotate_left
           ·go_simp; (try with_reducible rfl)
           simp only [Act.put,List.setIfInBounds_toArray,List.set_cons_zero,List.set_cons_succ]
           refine tkH (v:=?_) 2 (some 97) rfl rfl (by kernel_rfl) (by kernel_rfl) (fun _ _ _ h => h) (fun W' hSW => ?_) hS ?_
           rotate_left
           ·go_simp; (try with_reducible rfl)
           simp only [Act.put,List.setIfInBounds_toArray,List.set_cons_zero,List.set_cons_succ]
           refine tkH (v:=?_) 3 (some 98) rfl rfl (by kernel_rfl) (by kernel_rfl) (fun _ _ _ h => h) (fun W' hSW => ?_) hS ?_
           rotate_left
           ·obtain ⟨k0,k1,k2,k3⟩:=cells4 (blk_below (blk_drew xyA.out) hSW); go_simp; (try with_reducible rfl)
           simp only [Act.put,List.setIfInBounds_toArray,List.set_cons_zero,List.set_cons_succ]
           refine tkH (v:=?_) 5 (some 100) rfl rfl (by kernel_rfl) (by kernel_rfl) (fun _ _ _ h => h) (fun W' hSW => ?_) hS ?_
           rotate_left
           ·go_simp; (try with_reducible rfl)
           simp only [Act.put,List.setIfInBounds_toArray,List.set_cons_zero,List.set_cons_succ]
           refine tkH (v:=?_) 6 (some 101) rfl rfl (by kernel_rfl) (by kernel_rfl) (fun _ _ _ h => h) (fun W' hSW => ?_) hS ?_
           rotate_left
           ·go_simp; (try with_reducible rfl)
           simp only [Act.put,List.setIfInBounds_toArray,List.set_cons_zero,List.set_cons_succ]
           refine tkH (v:=?_) 7 (some 102) rfl rfl (by kernel_rfl) (by kernel_rfl) (fun _ _ _ h => h) (fun W' hSW => ?_) hS ?_
           rotate_left
           ·go_simp; (try with_reducible rfl)
           simp only [Act.put,List.setIfInBounds_toArray,List.set_cons_zero,List.set_cons_succ]
           refine tkH (v:=?_) 8 (some 103) rfl rfl (by kernel_rfl) (by kernel_rfl) (fun _ _ _ h => h) (fun W' hSW => ?_) hS ?_
           rotate_left
           ·go_simp; (try with_reducible rfl)
           simp only [Act.put,List.setIfInBounds_toArray,List.set_cons_zero,List.set_cons_succ]
           refine tkH (v:=?_) 9 (some 104) rfl rfl (by kernel_rfl) (by kernel_rfl) (fun _ _ _ h => h) (fun W' hSW => ?_) hS ?_
           rotate_left
           ·go_simp; (try with_reducible rfl)
           simp only [Act.put,List.setIfInBounds_toArray,List.set_cons_zero,List.set_cons_succ]
           refine wpAnyH_ready (rs:=[4]) (by kernel_rfl) (by simp) (AllReadyH.cons rfl (fun K hK => ?_) AllReadyH.nil)
           go_simp
           refine hK.out _ _ (below_alloc hS _) (fun _ => ?_)
           clear hK K
           refine wpAnyH_ready (rs:=[10]) (by kernel_rfl) (by simp) (AllReadyH.cons rfl (fun K hK => ?_) AllReadyH.nil)
           go_simp
           refine hSm.out.mono ?_
           rintro e W10 ⟨rfl,hb⟩
           have hS2 : Below v2.drew.heap.size v2.drew W10:=two_steps (below_alloc (Below.refl _ _) _) hb
           refine hK.out _ _ hS2 (fun _ => ?_)
           clear hK K
           refine tkH (v:=?_) 11 (some 106) rfl rfl (by kernel_rfl) (by kernel_rfl) (fun _ _ _ h => h) (fun W' hSW => ?_) hS2 ?_
           rotate_left
           ·go_simp; (try with_reducible rfl)
           simp only [Act.put,List.setIfInBounds_toArray,List.set_cons_zero,List.set_cons_succ]
           refine tkH (v:=?_) 12 (some 107) rfl rfl (by kernel_rfl) (by kernel_rfl) (fun _ _ _ h => h) (fun W' hSW => ?_) hS2 ?_
           rotate_left
           ·go_simp; (try with_reducible rfl)
           simp only [Act.put,List.setIfInBounds_toArray,List.set_cons_zero,List.set_cons_succ]
           refine wpAnyH_done (by kernel_rfl) ?_ _
           have hfin:=Aside0.mk (hkp.out.trans (hb.mono hkp.out.size))
           go_wp2
           go_roundg (l.length - (i + 1))
           case measure => omega
           case rel => exact ⟨i + 1,by first | rfl | (rw [hwi]),by omega,hfin⟩
         ·have f1 : (p.f0 == 10) = false:=by rw [beq_eq_false_iff_ne]; exact h10
          replace h10:=Aside0.mk h10
          refine wp_region_held_drew (S:=Below wr.drew.heap.size wr.drew) (by kernel_rfl) (Below.refl _ _) (fun hS => ?_)
          refine tkH (v:=?_) 0 (some 55) rfl rfl (by kernel_rfl) (by kernel_rfl) (fun _ _ _ h => h) (fun W' hSW => ?_) hS ?_
          rotate_left
          ·go_simp; (try with_reducible rfl)
          simp only [Act.put,List.setIfInBounds_toArray,List.set_cons_zero,List.set_cons_succ]
          refine tkH (v:=?_) 1 (some 56) rfl rfl (by kernel_rfl) (by kernel_rfl) (fun _ _ _ h => h) (fun W' hSW => ?_) hS ?_
          rotate_left
          ·go_simp; (try with_reducible rfl)
          simp only [Act.put,List.setIfInBounds_toArray,List.set_cons_zero,List.set_cons_succ]
          refine tkH (v:=?_) 2 (some 57) rfl rfl (by kernel_rfl) (by kernel_rfl) (fun _ _ _ h => h) (fun W' hSW => ?_) hS ?_
          rotate_left
          ·go_simp; (try with_reducible rfl)
          simp only [Act.put,List.setIfInBounds_toArray,List.set_cons_zero,List.set_cons_succ]
          refine tkH (v:=?_) 3 (some 58) rfl rfl (by kernel_rfl) (by kernel_rfl) (fun _ _ _ h => h) (fun W' hSW => ?_) hS ?_
          rotate_left
          ·go_simp; (try with_reducible rfl)
          simp only [Act.put,List.setIfInBounds_toArray,List.set_cons_zero,List.set_cons_succ]
          refine tkH (v:=?_) 4 (some 59) rfl rfl (by kernel_rfl) (by kernel_rfl) (fun _ _ _ h => h) (fun W' hSW => ?_) hS ?_
          rotate_left
          ·have k0:=pw_cell_below ((below_drew (Below.refl _ _)).trans hSW) q0.out; go_simp; (try with_reducible rfl)
          simp only [Act.put,List.setIfInBounds_toArray,List.set_cons_zero,List.set_cons_succ]
          refine tkH (v:=?_) 5 (some 60) rfl rfl (by kernel_rfl) (by kernel_rfl) (fun _ _ _ h => h) (fun W' hSW => ?_) hS ?_
          rotate_left
          ·go_simp; (try with_reducible rfl)
          simp only [Act.put,List.setIfInBounds_toArray,List.set_cons_zero,List.set_cons_succ]
          refine tkH (v:=?_) 6 (some 61) rfl rfl (by kernel_rfl) (by kernel_rfl) (fun _ _ _ h => h) (fun W' hSW => ?_) hS ?_
          rotate_left
          ·have k0:=pw_cell_below ((below_drew (Below.refl _ _)).trans hSW) r1.out; go_simp; (try with_reducible rfl)
          simp only [Act.put,List.setIfInBounds_toArray,List.set_cons_zero,List.set_cons_succ]
          refine wpAnyH_ready (rs:=[7]) (by kernel_rfl) (by simp) (AllReadyH.cons rfl (fun K hK => ?_) AllReadyH.nil)
          go_simp
          refine (hAp1 _).mono ?_
          rintro e W7 ⟨rfl,hb⟩
          have hS:=hS.trans (hb.mono hS.size)
          clear hb
          refine hK.out _ _ hS (fun _ => ?_)
          clear hK K
          refine tkH (v:=?_) 8 (some 63) rfl rfl (by kernel_rfl) (by kernel_rfl) (fun _ _ _ h => h) (fun W' hSW => ?_) hS ?_
          rotate_left
          ·go_simp; (try with_reducible rfl)
          simp only [Act.put,List.setIfInBounds_toArray,List.set_cons_zero,List.set_cons_succ]
          refine tkH (v:=?_) 9 (some 64) rfl rfl (by kernel_rfl) (by kernel_rfl) (fun _ _ _ h => h) (fun W' hSW => ?_) hS ?_
          rotate_left
          ·go_simp; (try with_reducible rfl)
          simp only [Act.put,List.setIfInBounds_toArray,List.set_cons_zero,List.set_cons_succ]
          refine tkH (v:=?_) 10 (some 65) rfl rfl (by kernel_rfl) (by kernel_rfl) (fun _ _ _ h => h) (fun W' hSW => ?_) hS ?_
          rotate_left
          ·go_simp; (try with_reducible rfl)
          simp only [Act.put,List.setIfInBounds_toArray,List.set_cons_zero,List.set_cons_succ]
          refine tkH (v:=?_) 11 (some 66) rfl rfl (by kernel_rfl) (by kernel_rfl) (fun _ _ _ h => h) (fun W' hSW => ?_) hS ?_
          rotate_left
          ·have k0:=pw_cell_below ((below_drew (Below.refl _ _)).trans hSW) r2.out; go_simp; (try with_reducible rfl)
          simp only [Act.put,List.setIfInBounds_toArray,List.set_cons_zero,List.set_cons_succ]
          refine tkH (v:=?_) 12 (some 67) rfl rfl (by kernel_rfl) (by kernel_rfl) (fun _ _ _ h => h) (fun W' hSW => ?_) hS ?_
          rotate_left
          ·go_simp; (try with_reducible rfl)
          simp only [Act.put,List.setIfInBounds_toArray,List.set_cons_zero,List.set_cons_succ]
          refine tkH (v:=?_) 13 (some 68) rfl rfl (by kernel_rfl) (by kernel_rfl) (fun _ _ _ h => h) (fun W' hSW => ?_) hS ?_
          rotate_left
          ·go_simp; (try with_reducible rfl)
          simp only [Act.put,List.setIfInBounds_toArray,List.set_cons_zero,List.set_cons_succ]
          refine tkH (v:=?_) 14 (some 69) rfl rfl (by kernel_rfl) (by kernel_rfl) (fun _ _ _ h => h) (fun W' hSW => ?_) hS ?_
          rotate_left
          ·go_simp; (try with_reducible rfl)
          simp only [Act.put,List.setIfInBounds_toArray,List.set_cons_zero,List.set_cons_succ]
          refine tkH (v:=?_) 15 (some 70) rfl rfl (by kernel_rfl) (by kernel_rfl) (fun _ _ _ h => h) (fun W' hSW => ?_) hS ?_
          rotate_left
          ·have k0:=pw_cell_below ((below_drew (Below.refl _ _)).trans hSW) r0.out; go_simp; (try with_reducible rfl)
          simp only [Act.put,List.setIfInBounds_toArray,List.set_cons_zero,List.set_cons_succ]
          refine tkH (v:=?_) 16 (some 71) rfl rfl (by kernel_rfl) (by kernel_rfl) (fun _ _ _ h => h) (fun W' hSW => ?_) hS ?_
          rotate_left
          ·go_simp; (try with_reducible rfl)
          simp only [Act.put,List.setIfInBounds_toArray,List.set_cons_zero,List.set_cons_succ]
          refine tkH (v:=?_) 17 (some 72) rfl rfl (by kernel_rfl) (by kernel_rfl) (fun _ _ _ h => h) (fun W' hSW => ?_) hS ?_
          rotate_left
          ·go_simp; (try with_reducible rfl)
          simp only [Act.put,List.setIfInBounds_toArray,List.set_cons_zero,List.set_cons_succ]
          refine tkH (v:=?_) 18 (some 73) rfl rfl (by kernel_rfl) (by kernel_rfl) (fun _ _ _ h => h) (fun W' hSW => ?_) hS ?_
          rotate_left
          ·go_simp; (try with_reducible rfl)
          simp only [Act.put,List.setIfInBounds_toArray,List.set_cons_zero,List.set_cons_succ]
          refine tkUs (fun _ _ _ _ h => h) hS [(19,74),(20,75),(21,76),(22,77),(23,78),(24,79),(25,80),(26,81),(27,82)] 2 rfl (by kernel_rfl) ?_
          simp only [skipL,skipP,Act.put,List.setIfInBounds_toArray,List.set_cons_zero,List.set_cons_succ]
          refine tkH (v:=?_) 28 (some 83) rfl rfl (by kernel_rfl) (by kernel_rfl) (fun _ _ _ h => h) (fun W' hSW => ?_) hS ?_
          rotate_left
          ·go_simp; (try with_reducible rfl)
          simp only [Act.put,List.setIfInBounds_toArray,List.set_cons_zero,List.set_cons_succ]
          refine tkH (v:=?_) 29 (some 84) rfl rfl (by kernel_rfl) (by kernel_rfl) (fun _ _ _ h => h) (fun W' hSW => ?_) hS ?_
          rotate_left
          ·go_simp; (try with_reducible rfl)
          simp only [Act.put,List.setIfInBounds_toArray,List.set_cons_zero,List.set_cons_succ]
          refine wpAnyH_done (by kernel_rfl) ?_ _
          replace hc1:=hc1.out
          have hfx : findV M x.f0 = some x:=helx hc1 (fun _ h => absurd h h10.out)
          have hth : thingAt M x.f0 = x:=by unfold thingAt; rw [hfx]; rfl
          rw [hth,hfx] at hFd
          replace hFd:=Aside0.mk hFd
          clear hth hfx helx hAp1 hAp2
          have hgo : Below w8.heap.size w8 W7:=B1.out.drew.trans (hS.mono B1.out.drew.size)
          clear hS
          obtain ⟨ad',Y',d',he',ry',q0',-,-,-⟩:=ent_at (Kd.C_below hr.out (hw8.trans (hgo.mono hw8.size))) i hlt rfl
          injection he' with he'
          subst he'
          rw [show l.getD i z41 = x by rw [getD_get hlt,hxi.out]] at ry' q0'
          go_wp2_with (fail)
          refine (hFd.out _ hgo).mono ?_
          rintro e v1 ⟨X2,d2,rfl,hd2,hX2,hc2⟩
          clear q0'
          have hW1 : Below w8.heap.size w8 v1:=hgo.trans (hc2.mono hgo.size)
          have hwv1 : Below w.heap.size w v1:=hw8.trans (hW1.mono hw8.size)
          have hcx : ∀ W,Below w.heap.size w W → Kd.C k41 W (some (ad.add (i * 4))) 1 [x]:=fun W h => by
           have h2:=Kd.C_mid (k:=k41) (lo:=i) (hi:=i + 1) (c:=c) (Kd.C_below hr.out h) (by omega) (by omega) hc.out
           have e1 : (l.take (i + 1)).drop i = [x]:=by rw [List.take_succ_eq_append_getElem hlt,List.drop_append_of_le_length (by rw [List.length_take]; omega),List.drop_of_length_le (by rw [List.length_take]; omega),hxi.out]; rfl
           rw [e1,if_neg (by have:=hc.out; omega)] at h2
           exact h2
          obtain ⟨v2,hv2⟩ : ∃ v2,v2 = v1.alloc (.cells #[.string x.f0,.int .i64 x.f1,.slice X2 x.f2.length d2,.string x.f3] 41):=⟨_,rfl⟩
          have hB2 : Below v1.heap.size v1 v2:=by rw [hv2]; exact below_alloc (Below.refl _ _) _
          have xy : v2.heap[v1.heap.size]? = some (.cells #[.string x.f0,.int .i64 x.f1,.slice X2 x.f2.length d2,.string x.f3] 41 (0,0)):=by rw [hv2]; exact blk_new _ _
          have hT1 : Below v1.heap.size v1 (v2.drew.alloc (.cells #[.string x.f0,.int .i64 x.f1,.slice X2 x.f2.length d2,.string x.f3] 41)):=(hB2.drew).alloc (by have:=hB2.size; simpa using this) _
          have hSm:=sameE_at [x] (by show 1 ≤ _; decide) (fun z hz => by rw [List.mem_singleton.1 hz]; exact hxn.out) (some ⟨v2.drew.heap.size,0,none⟩) 1 (some (ad.add (i * 4))) (c - i) (v2.drew.alloc (.cells #[.string x.f0,.int .i64 x.f1,.slice X2 x.f2.length d2,.string x.f3] 41)) (entC (blk_new v2.drew (.cells #[.string x.f0,.int .i64 x.f1,.slice X2 x.f2.length d2,.string x.f3] 41)) (Kd.C_below hX2 hT1) hd2) (by show 1 ≤ _; decide) (hcx _ (hwv1.trans (hT1.mono hwv1.size))) (by have:=hc.out; show 1 ≤ _; omega)
          have hkp : Below w8.heap.size w8 (v2.drew.alloc (.cells #[.string x.f0,.int .i64 x.f1,.slice X2 x.f2.length d2,.string x.f3] 41)):=hW1.trans (hT1.mono hW1.size)
          replace hSm:=Aside0.mk hSm
          replace hkp:=Aside0.mk hkp
          have xyA:=Aside0.mk xy
          have hle1 : (i : Int) ≤ ((i + 1 : Nat) : Int):=by omega
          have hle2 : ((i + 1 : Nat) : Int) ≤ (c : Int):=by have:=hc.out; omega
          have hci : (c = i) = False:=eq_false (by have:=hc.out; omega)
          have hle3 : (0 ≤ (i : Int) + 1 ∧ (i : Int) + 1 ≤ (c : Int)) = True:=eq_true ⟨by omega,by have:=hc.out; omega⟩
          clear hcx hB2 hT1 hX2 hd2 xy hc2
          go_upto_region 17 with (fail)
          rw [← hv2]
          clear hv2
          refine wp_region_held_drew (S:=Below v2.drew.heap.size v2.drew) (by kernel_rfl) (Below.refl _ _) (fun hS => ?_)
          refine tkH (v:=?_) 0 (some 95) rfl rfl (by kernel_rfl) (by kernel_rfl) (fun _ _ _ h => h) (fun W' hSW => ?_) hS ?_
          rotate_left
          ·go_simp; (try with_reducible rfl)
          simp only [Act.put,List.setIfInBounds_toArray,List.set_cons_zero,List.set_cons_succ]
          refine tkH (v:=?_) 1 (some 96) rfl rfl (by kernel_rfl) (by kernel_rfl) (fun _ _ _ h => h) (fun W' hSW => ?_) hS ?_
          rotate_left
          ·go_simp; (try with_reducible rfl)
          simp only [Act.put,List.setIfInBounds_toArray,List.set_cons_zero,List.set_cons_succ]
          refine tkH (v:=?_) 2 (some 97) rfl rfl (by kernel_rfl) (by kernel_rfl) (fun _ _ _ h => h) (fun W' hSW => ?_) hS ?_
          rotate_left
          ·go_simp; (try with_reducible rfl)
          simp only [Act.put,List.setIfInBounds_toArray,List.set_cons_zero,List.set_cons_succ]
          refine tkH (v:=?_) 3 (some 98) rfl rfl (by kernel_rfl) (by kernel_rfl) (fun _ _ _ h => h) (fun W' hSW => ?_) hS ?_
          rotate_left
          ·obtain ⟨k0,k1,k2,k3⟩:=cells4 (blk_below (blk_drew xyA.out) hSW); go_simp; (try with_reducible rfl)
          simp only [Act.put,List.setIfInBounds_toArray,List.set_cons_zero,List.set_cons_succ]
          refine tkH (v:=?_) 5 (some 100) rfl rfl (by kernel_rfl) (by kernel_rfl) (fun _ _ _ h => h) (fun W' hSW => ?_) hS ?_
          rotate_left
          ·go_simp; (try with_reducible rfl)
          simp only [Act.put,List.setIfInBounds_toArray,List.set_cons_zero,List.set_cons_succ]
          refine tkH (v:=?_) 6 (some 101) rfl rfl (by kernel_rfl) (by kernel_rfl) (fun _ _ _ h => h) (fun W' hSW => ?_) hS ?_
          rotate_left
          ·go_simp; (try with_reducible rfl)
          simp only [Act.put,List.setIfInBounds_toArray,List.set_cons_zero,List.set_cons_succ]
          refine tkH (v:=?_) 7 (some 102) rfl rfl (by kernel_rfl) (by kernel_rfl) (fun _ _ _ h => h) (fun W' hSW => ?_) hS ?_
          rotate_left
          ·go_simp; (try with_reducible rfl)
          simp only [Act.put,List.setIfInBounds_toArray,List.set_cons_zero,List.set_cons_succ]
          refine tkH (v:=?_) 8 (some 103) rfl rfl (by kernel_rfl) (by kernel_rfl) (fun _ _ _ h => h) (fun W' hSW => ?_) hS ?_
          rotate_left
          ·go_simp; (try with_reducible rfl)
          simp only [Act.put,List.setIfInBounds_toArray,List.set_cons_zero,List.set_cons_succ]
          refine tkH (v:=?_) 9 (some 104) rfl rfl (by kernel_rfl) (by kernel_rfl) (fun _ _ _ h => h) (fun W' hSW => ?_) hS ?_
          rotate_left
          ·go_simp; (try with_reducible rfl)
          simp only [Act.put,List.setIfInBounds_toArray,List.set_cons_zero,List.set_cons_succ]
          refine wpAnyH_ready (rs:=[4]) (by kernel_rfl) (by simp) (AllReadyH.cons rfl (fun K hK => ?_) AllReadyH.nil)
          go_simp
          refine hK.out _ _ (below_alloc hS _) (fun _ => ?_)
          clear hK K
          refine wpAnyH_ready (rs:=[10]) (by kernel_rfl) (by simp) (AllReadyH.cons rfl (fun K hK => ?_) AllReadyH.nil)
          go_simp
          refine hSm.out.mono ?_
          rintro e W10 ⟨rfl,hb⟩
          have hS2 : Below v2.drew.heap.size v2.drew W10:=two_steps (below_alloc (Below.refl _ _) _) hb
          refine hK.out _ _ hS2 (fun _ => ?_)
          clear hK K
          refine tkH (v:=?_) 11 (some 106) rfl rfl (by kernel_rfl) (by kernel_rfl) (fun _ _ _ h => h) (fun W' hSW => ?_) hS2 ?_
          rotate_left
          ·go_simp; (try with_reducible rfl)
          simp only [Act.put,List.setIfInBounds_toArray,List.set_cons_zero,List.set_cons_succ]
          refine tkH (v:=?_) 12 (some 107) rfl rfl (by kernel_rfl) (by kernel_rfl) (fun _ _ _ h => h) (fun W' hSW => ?_) hS2 ?_
          rotate_left
          ·go_simp; (try with_reducible rfl)
          simp only [Act.put,List.setIfInBounds_toArray,List.set_cons_zero,List.set_cons_succ]
          refine wpAnyH_done (by kernel_rfl) ?_ _
          have hfin:=Aside0.mk (hkp.out.trans (hb.mono hkp.out.size))
          go_wp2
          go_roundg (l.length - (i + 1))
          case measure => omega
          case rel => exact ⟨i + 1,by first | rfl | (rw [hwi]),by omega,hfin⟩
      ·have hdb : decide ((i : Int) < (l.length : Int)) = false:=decide_eq_false (by omega)
       go_wp2
       go_ret
       exact ⟨rfl,hwr0⟩
    ·skip
     have hne : (E != 0) = true:=by rw [bne_iff_ne]; exact hz
     have hne2 : (E == 0) = false:=by rw [beq_eq_false_iff_ne]; exact hz
     have hS':=hSn.out hz
     subst hS'
     clear hz hS hSn
     go_wp2_with (fail)
     refine (sameE_at l hn.out hx.out D1 d1 A c _ gD2.out hD1.out (Kd.C_below hr.out (by repeat (first | with_reducible exact hw6 | refine Below.setCell ?_ (by have:=hw6.size; simp <;> omega) _ | refine Below.alloc ?_ (by have:=hw6.size; simp <;> omega) _ | refine Below.drew ?_))) hc.out).mono ?_
     rintro e w7 ⟨rfl,hb7⟩
     clear pc0 pc1 pc2 pc3 pc4 pc5 pc6
     have hs7 : Below w6.heap.size w6 w7:=two_steps (by repeat (first | exact Below.refl _ _ | refine Below.setCell ?_ (by simp <;> omega) _ | refine Below.alloc ?_ (by simp <;> omega) _ | refine Below.drew ?_)) hb7
     have hw7 : Below w.heap.size w w7:=hw6.trans (hs7.mono hw6.size)
     have xp:=blk_below xp hs7
     clear hb7
     obtain ⟨pc0,pc1,pc2,pc3,pc4,pc5,pc6⟩:=cells7 xp
     go_wp2
     go_ret
     exact ⟨rfl,(by repeat (first | with_reducible exact hw7 | refine Below.setCell ?_ (by have:=hw7.size; simp <;> omega) _ | refine Below.alloc ?_ (by have:=hw7.size; simp <;> omega) _ | refine Below.drew ?_))⟩
end Go.Proofs.YthhohbidjhcjeaaGreatDoor.H
namespace Go.Proofs.YthhohbidjhcjeaaGreatDoor.RPrimTree
open Go.ChangeShapes Go.WideShapes Go.ChangeAt Go.RowKit Go.Proofs.YthhohbidjhcjeaaGreatDoorW.PrintWords Go.Proofs.YthhohbidjhcjeaaGreatDoorW.PrintMore Go.Proofs.YthhohbidjhcjeaaGreatDoor.Q Go.Proofs.YthhohbidjhcjeaaGreatDoor.Op Go.Proofs.YthhohbidjhcjeaaGreatDoor.Pl Go.Proofs.YthhohbidjhcjeaaGreatDoor.Od
set_option maxRecDepth 100000 in
theorem lifted (os : Os) (started : os.Started) (H : Type) (enc : TypeId × Value → H) :
  ReturnsInHanded {} Tryz.checked os 5 .any (fun w args => (Rows.primTreeSpec.pre enc Tryz.prog Tryz.f5 [] false w args ∧ laidMetH Tryz.prog laidTabs w) ∧ sizedMet enc Tryz.prog Tryz.f5 (OpenSpec.ofChange Rows.primTreeSpec) false w args)
   (Rows.primTreeSpec.post enc Tryz.prog Tryz.f5 false true false false):=by
 refine returnsInHanded_of_change_and (C:=Tryz.checked) (X:=fun w _ => laidMetH Tryz.prog laidTabs w) (fun _ _ _ hh h => h.of_heap hh) own started (by kernel_rfl) Tryz.func5
  (ChangeSpec.witness_shaped (enc:=enc) (C:=Tryz.checked) (os:=os) (X:=fun w _ => laidMetH Tryz.prog laidTabs w) false (World.laidAll Tryz.prog os laidTabs) #[.slice none 0 0,.agg #[.int .i64 0,.string ByteArray.empty,.string ByteArray.empty,.string ByteArray.empty,.int .i64 0,.slice none 0 0,.slice none 0 0]] 8 (World.laidAll_os _ _ _)
   (World.shaped_of_ZipB (by kernel_rfl) (by kernel_rfl)) (by kernel_rfl) (by kernel_rfl) (by kernel_rfl)
   (by rw [MakeChecks.laidMetH_plain _ _ _ (by kernel_rfl)]; exact laidMet_laidAll _ (by kernel_rfl) (by kernel_rfl))) ?_
 intro W base args ds gs before hval0 hW _ hsz0 hL _
 have hsz : (DataW.weightsEach Tryz.prog (Tryz.f5.params.toList ++ Rows.primTreeSpec.plain.varTypes Tryz.prog) (ds ++ gs)).all (· ≤ reachBytes) = true:=hsz0
 have hval : ∀ (j : Nat) t v,Tryz.f5.params[j]? = some t → args[j]? = some v → Value.okWide Tryz.prog W .any base t v:=hval0
 have hW':=hW
 obtain ⟨p,q,hA0,hV,rfl,hfz,hnd⟩:=hW
 have hA : DataW.TrodAll enc Tryz.prog W 0 (fun _ => true) true Tryz.f5.params.toList args.toList ds p:=hA0
 rw [Tryz.params5] at hA hval hsz
 obtain ⟨v0,vs0,d0,ds0,p0,q0,hargs,rfl,rfl,h0,r0⟩:=trodAll_cons hA
 obtain ⟨v1,vs1,d1,ds1,p1,q1,rfl,rfl,rfl,h1,r1⟩:=trodAll_cons r0
 obtain ⟨rfl,rfl,rfl⟩:=trodAll_nil r1
 obtain rfl : args = #[v0,v1]:=by cases args; simp_all
 obtain ⟨rfl,rfl⟩:=trodVars_none hV
 have k0:=h0
 have lt0 : ∀ x ∈ p0,x.block < W.heap.size:=by obtain ⟨m,hm⟩:=k0; exact DataW.trod_lt m _ _ _ hm
 obtain ⟨x0,hK0,hG0⟩:=opened o22 h0 hsz (j:=0) rfl rfl
 obtain ⟨B0,u0,hc0,lu0,g0⟩:=hK0
 obtain ⟨b0,n0,m0,rfl⟩:=okWide_slice Tryz.underlying22 (hval 0 22 v0 rfl rfl)
 obtain ⟨rfl,rfl,rfl⟩ : b0 = B0 ∧ n0 = x0.length ∧ m0 = u0:=by simpa [Value.cells] using hc0
 obtain ⟨_,hb0,hg0⟩:=hG0
 have k1:=h1
 have lt1 : ∀ x ∈ p1,x.block < W.heap.size:=by obtain ⟨m,hm⟩:=k1; exact DataW.trod_lt m _ _ _ hm
 obtain ⟨x1,hK1,hG1⟩:=opened o25 h1 hsz (j:=1) rfl rfl
 obtain ⟨c1,rfl,_⟩:=okWide_struct Tryz.underlying25 (hval 1 25 v1 rfl rfl)
 obtain ⟨A15,c15,A16,c16,hc1,l15,g15,l16,g16⟩:=k25_open hK1
 obtain rfl : c1 = #[.int .i64 x1.f0,.string x1.f1,.string x1.f2,.string x1.f3,.int .i64 x1.f4,.slice A15 x1.f5.length c15,.slice A16 x1.f6.length c16]:=by rw [← Array.toList_inj]; exact hc1
 clear hA0 hval0 hsz0 hsz
 refine (Go.Proofs.YthhohbidjhcjeaaGreatDoor.H.ptree_calls x0 b0 m0 x1 A15 c15 A16 c16 W g0 lu0 (by omega) (fun x hx => (hg0 x hx).n) hG1 ⟨g15,l15,g16,l16⟩).mono fun e W' ⟨he,bel⟩ => ?_
 subst he
 exact ⟨_,rfl,_,_,_,[],_,[],hW',trodAll_mk1 (shut_bool Tryz.underlying4 _),(trodAll_cons_mk (Below.trod laidOut (by kernel_rfl) (of_decide_eq_true (by kernel_rfl)) k0 bel lt0) (trodAll_cons_mk (Below.trod laidOut (by kernel_rfl) (of_decide_eq_true (by kernel_rfl)) k1 bel lt1) trodAll_mk0)),rfl,bel.frame _,fun h => by cases h⟩
theorem band {a b : Bool} (ha : a = true) (hb : b = true) : (a && b) = true:=by rw [ha,hb]; rfl
set_option maxHeartbeats 4000000 in
theorem facts : joinedFacts Tryz.prog 5 Tryz.f5 Rows.primTreeSpec Rows.primTreeRow = true:=by
 unfold joinedFacts
 repeat' (with_reducible refine band ?_ ?_)
 all_goals (first | (with_reducible exact heads.1) | (rw [heads.2.1]; rfl) | (rw [heads.2.2.1]; rfl) | (as_aux_lemma => kernel_rfl))
set_option maxHeartbeats 4000000 in
theorem over : Rows.primTreeRow.holds Tryz.pinned (OpenSpec.ofChange Rows.primTreeSpec) :=
 OpenClaim.holds_of_wide 5 Tryz.f5 rfl rfl rfl rfl rfl rfl rfl ⟨rfl,rfl,rfl,rfl,rfl⟩ rfl rfl rfl rfl rfl (by as_aux_lemma => kernel_rfl) Tryz.func5 facts
  (of_decide_eq_true (by as_aux_lemma => kernel_rfl)) (by unfold Func.isWrapper; first | (rw [if_pos (by decide +kernel)]; kernel_rfl) | (rw [if_neg (by decide +kernel)]; exact ⟨rfl,rfl⟩))
  (fun os started H enc _ => lifted os started H enc)
set_option maxHeartbeats 4000000 in
theorem card : Rows.PrimTreeCardSaid :=
 Claim7.holds_tied_plain_at .later [] [.data, .pinned] true (true, "b2c3b2d2b50221d5631762a848752805bff427337fd1c8fab364110e20b5edb9") false over (fun _ h => by cases h) (by as_aux_lemma => kernel_rfl) (fun _ h => by cases h) primTree_row_tie rfl ⟨rfl, rfl⟩ heads.2.2.2 rfl
  (fun f fn hf hfn => by
   obtain rfl : f = 5:=Option.some.inj ((show Tryz.prog.funcNamed Rows.primTreeRow.func = some 5 by as_aux_lemma => kernel_rfl).symm.trans hf) |>.symm
   obtain rfl : fn = Tryz.f5:=(Option.some.inj (Tryz.func5.symm.trans hfn)).symm
   exact ⟨by as_aux_lemma => kernel_rfl,fun j t ht => by
    rw [Tryz.params5] at ht
    have hm : t ∈ [22,25]:=by simpa using Array.mem_of_getElem? ht
    have hall : ([22,25].all fun u => !Tryz.prog.wantsStandIn u) = true:=by as_aux_lemma => kernel_rfl
    exact (show Tryz.prog.wantsStandIn t = false by simpa using List.all_eq_true.1 hall t hm)⟩)
  (by as_aux_lemma => kernel_rfl)
end Go.Proofs.YthhohbidjhcjeaaGreatDoor.RPrimTree
namespace Go.Proofs.YthhohbidjhcjeaaGreatDoor
/-- The card of PrimTree. -/
theorem PrimTree_card : Rows.PrimTreeCardSaid:=RPrimTree.card
#print axioms PrimTree_card
end Go.Proofs.YthhohbidjhcjeaaGreatDoor
