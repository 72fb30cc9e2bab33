/- The statement InvertUndoes holds: whatever the input the law returns true, and the input reads behind the call as before; the listed tables are tied to the program's text. -/
import Derived.Test.YthhohbidjhcjeaaGreatDoorBM8
import Derived.Test.YthhohbidjhcjeaaGreatDoorBM6
import Derived.Test.YthhohbidjhcjeaaGreatDoorRows
import Derived.Test.YthhohbidjhcjeaaGreatDoorCards
import Derived.Test.YthhohbidjhcjeaaGreatDoorTie
import Derived.WalkKit
import Derived.ProofKit
import Derived.OpenShut
import Derived.ShutString
import Derived.ChangeOld
import Derived.Below
import Derived.SizedLaws
import Derived.Lay
import Derived.LaidOnce
import Derived.LaidMore
import Derived.SevenTiedAt
namespace Go.Proofs.YthhohbidjhcjeaaGreatDoor.H
open Go.RowKit Go.Shelf Go.Proofs.YthhohbidjhcjeaaGreatDoorW.PrintWords Go.Proofs.YthhohbidjhcjeaaGreatDoorW.PrintLast Go.Proofs.YthhohbidjhcjeaaGreatDoorW.PrintMore
open Go.Proofs.YthhohbidjhcjeaaGreatDoor.Q Go.Proofs.YthhohbidjhcjeaaGreatDoor.Pl
set_option linter.unusedVariables false
set_option linter.unusedSimpArgs false
theorem fit_inv {p : S25} (h : SmallP p) (hk : Okp p) : FitP (invS p):=by
 refine ⟨okp_inv hk,?_,?_,?_⟩
 all_goals
  have h1:=h.n
  have h2:=h.f1
  have h3:=h.f2
  have h4:=h.f3
  unfold invS
  repeat' split
  all_goals (first | omega | (simp only [z25]; decide) | (show ([] : List ByteArray).length ≤ _; decide) | (show (⟨#[]⟩ : ByteArray).size ≤ _; decide) | (simp only; omega))
set_option maxHeartbeats 4000000 in
set_option maxRecDepth 1000000 in
theorem undoes_calls (l : List S41) (A : Option Addr) (c : Nat) (p : S25) (A5 : Option Addr) (a5 : Nat) (A6 : Option Addr) (a6 : Nat) (w : World) (hr : Kd.C k41 w A l.length l) (hc : l.length ≤ c) (hn : l.length ≤ 140737488355328) (hx : ∀ x ∈ l,x.f2.length ≤ 140737488355328) (hp : Okp p) (rp : Rd w p A5 a5 A6 a6) :
  Calls Tryz.prog 10 #[.slice A l.length c,.agg #[.int .i64 p.f0,.string p.f1,.string p.f2,.string p.f3,.int .i64 p.f4,.slice A5 p.f5.length a5,.slice A6 p.f6.length a6]] w fun e w' => e = .returned (.bool true) ∧ Below w.heap.size w w':=by
 obtain ⟨g,hgs,hG⟩:=G_at l A c w hr hc hn hx
 obtain ⟨k,hks,hK⟩:=K_at p A5 a5 A6 a6 w hp rp
 replace hG:=Aside0.mk hG
 replace hK:=Aside0.mk hK
 replace hgs:=Aside0.mk hgs
 replace hks:=Aside0.mk hks
 replace hn:=Aside0.mk hn
 replace hx:=Aside0.mk hx
 replace hr:=Aside0.mk hr
 replace hp:=Aside0.mk hp
 replace rp:=Aside0.mk rp
 replace hc:=Aside0.mk hc
 go_enter Tryz.func10,Tryz.ntmps10
 go_wp2_with (fail)
 refine (head_calls _).mono ?_
 rintro e w1 ⟨rfl,hb1⟩
 have hs1 : Below w.heap.size w w1:=two_steps (by repeat (first | exact Below.refl _ _ | refine Below.setCell ?_ (by simp <;> omega) _ | refine Below.alloc ?_ (by simp <;> omega) _ | refine Below.drew ?_)) hb1
 have hw1 : Below w.heap.size w w1:=(Below.refl w.heap.size w).trans (hs1.mono (Below.refl w.heap.size w).size)
 have xp : w1.heap[w.heap.size]? = some (.cells #[.int .i64 p.f0,.string p.f1,.string p.f2,.string p.f3,.int .i64 p.f4,.slice A5 p.f5.length a5,.slice A6 p.f6.length a6] 25 (0,0)):=blk_below (blk_new w _) hb1
 clear hb1
 obtain ⟨pc0,pc1,pc2,pc3,pc4,pc5,pc6⟩:=cells7 xp
 go_wp2_with (fail)
 refine (hG.out _ (by repeat (first | with_reducible exact hw1 | refine Below.setCell ?_ (by have:=hw1.size; simp <;> omega) _ | refine Below.alloc ?_ (by have:=hw1.size; simp <;> omega) _ | refine Below.drew ?_))).mono ?_
 rintro e w2 ⟨rfl,hb2⟩
 clear pc0 pc1 pc2 pc3 pc4 pc5 pc6
 have hs2 : Below w1.heap.size w1 w2:=two_steps (by repeat (first | exact Below.refl _ _ | refine Below.setCell ?_ (by simp <;> omega) _ | refine Below.alloc ?_ (by simp <;> omega) _ | refine Below.drew ?_)) hb2
 have hw2 : Below w.heap.size w w2:=hw1.trans (hs2.mono hw1.size)
 have xp:=blk_below xp hs2
 clear hb2
 obtain ⟨pc0,pc1,pc2,pc3,pc4,pc5,pc6⟩:=cells7 xp
 cases g with
 | true =>
  go_wp2
  go_ret
  exact ⟨rfl,(by repeat (first | with_reducible exact hw2 | refine Below.setCell ?_ (by have:=hw2.size; simp <;> omega) _ | refine Below.alloc ?_ (by have:=hw2.size; simp <;> omega) _ | refine Below.drew ?_))⟩
 | false =>
  go_wp2_with (fail)
  refine (hK.out _ (by repeat (first | with_reducible exact hw2 | refine Below.setCell ?_ (by have:=hw2.size; simp <;> omega) _ | refine Below.alloc ?_ (by have:=hw2.size; simp <;> omega) _ | refine Below.drew ?_))).mono ?_
  rintro e w3 ⟨rfl,hb3⟩
  clear pc0 pc1 pc2 pc3 pc4 pc5 pc6
  have hs3 : Below w2.heap.size w2 w3:=two_steps (by repeat (first | exact Below.refl _ _ | refine Below.setCell ?_ (by simp <;> omega) _ | refine Below.alloc ?_ (by simp <;> omega) _ | refine Below.drew ?_)) hb3
  have hw3 : Below w.heap.size w w3:=hw2.trans (hs3.mono hw2.size)
  have xp:=blk_below xp hs3
  clear hb3
  obtain ⟨pc0,pc1,pc2,pc3,pc4,pc5,pc6⟩:=cells7 xp
  cases k with
  | true =>
   go_wp2
   go_ret
   exact ⟨rfl,(by repeat (first | with_reducible exact hw3 | refine Below.setCell ?_ (by have:=hw3.size; simp <;> omega) _ | refine Below.alloc ?_ (by have:=hw3.size; simp <;> omega) _ | refine Below.drew ?_))⟩
  | false =>
   have hsm:=Aside0.mk (hgs.out (by trivial)).2
   have hsp:=Aside0.mk (hks.out (by trivial))
   have hA:=A_at l A c p A5 a5 A6 a6 w hr.out rp.out (small_fit hsm.out) (small_fitP hsp.out hp.out)
   obtain ⟨E,hE⟩ : ∃ E,applyE l p = E:=⟨_,rfl⟩
   obtain ⟨M,hM⟩ : ∃ M,doL l p = M:=⟨_,rfl⟩
   rw [hE,hM] at hA
   replace hA:=Aside0.mk hA
   replace hE:=Aside0.mk hE
   replace hM:=Aside0.mk hM
   go_wp2_with (fail)
   refine (hA.out _ (by repeat (first | with_reducible exact hw3 | refine Below.setCell ?_ (by have:=hw3.size; simp <;> omega) _ | refine Below.alloc ?_ (by have:=hw3.size; simp <;> omega) _ | refine Below.drew ?_))).mono ?_
   rintro e w4 ⟨S,rfl,hb4,hS,hSn⟩
   clear pc0 pc1 pc2 pc3 pc4 pc5 pc6
   have hs4 : Below w3.heap.size w3 w4:=two_steps (by repeat (first | exact Below.refl _ _ | refine Below.setCell ?_ (by simp <;> omega) _ | refine Below.alloc ?_ (by simp <;> omega) _ | refine Below.drew ?_)) hb4
   have hw4 : Below w.heap.size w w4:=hw3.trans (hs4.mono hw3.size)
   have xp:=blk_below xp hs4
   replace hS:=Aside0.mk hS
   replace hSn:=Aside0.mk hSn
   clear hb4
   obtain ⟨pc0,pc1,pc2,pc3,pc4,pc5,pc6⟩:=cells7 xp
   by_cases hz : E = 0
   ·have hz':=Aside0.mk hz
    subst hz
    obtain ⟨A4,c4,rfl,hl4,hC4⟩:=hS.out (by trivial)
    clear hS hSn
    replace hC4:=Aside0.mk hC4
    replace hl4:=Aside0.mk hl4
    have hu:=undo hE.out
    rw [hM.out] at hu
    have hu0:=Aside0.mk hu.1
    have hu1:=Aside0.mk hu.2
    clear hu
    have hfM : Aside0 (Fit M):=⟨by rw [← hM.out]; exact do_fit hsm.out hsp.out hE.out⟩
    have hfI : Aside0 (FitP (invS p)):=⟨fit_inv hsp.out hp.out⟩
    go_wp2_with (fail)
    refine (inv_rd p A5 a5 A6 a6 _ (rp.out.below (by repeat (first | with_reducible exact hw4 | refine Below.setCell ?_ (by have:=hw4.size; simp <;> omega) _ | refine Below.alloc ?_ (by have:=hw4.size; simp <;> omega) _ | refine Below.drew ?_)))).mono ?_
    rintro e w5 ⟨B5,d5,B6,d6,rfl,ri,hb5⟩
    clear pc0 pc1 pc2 pc3 pc4 pc5 pc6
    have hs5 : Below w4.heap.size w4 w5:=two_steps (by repeat (first | exact Below.refl _ _ | refine Below.setCell ?_ (by simp <;> omega) _ | refine Below.alloc ?_ (by simp <;> omega) _ | refine Below.drew ?_)) hb5
    have hw5 : Below w.heap.size w w5:=hw4.trans (hs5.mono hw4.size)
    have xp:=blk_below xp hs5
    replace ri:=Aside0.mk ri
    have hC5:=Aside0.mk (Kd.C_below hC4.out hs5)
    clear hb5
    obtain ⟨pc0,pc1,pc2,pc3,pc4,pc5,pc6⟩:=cells7 xp
    have hA2:=A_at M A4 c4 (invS p) B5 d5 B6 d6 _ hC5.out ri.out hfM.out hfI.out _ (Below.refl _ _)
    rw [hu0.out,hu1.out] at hA2
    go_wp2_with (fail)
    refine (hA2).mono ?_
    rintro e w6 ⟨S,rfl,hb6,hS,-⟩
    clear pc0 pc1 pc2 pc3 pc4 pc5 pc6
    have hs6 : Below w5.heap.size w5 w6:=two_steps (by repeat (first | exact Below.refl _ _ | refine Below.setCell ?_ (by simp <;> omega) _ | refine Below.alloc ?_ (by simp <;> omega) _ | refine Below.drew ?_)) hb6
    have hw6 : Below w.heap.size w w6:=hw5.trans (hs6.mono hw5.size)
    have xp:=blk_below xp hs6
    obtain ⟨A7,c7,rfl,hl7,hC7⟩:=hS (by trivial)
    clear hS
    replace hC7:=Aside0.mk hC7
    replace hl7:=Aside0.mk hl7
    clear hb6
    obtain ⟨pc0,pc1,pc2,pc3,pc4,pc5,pc6⟩:=cells7 xp
    go_wp2_with (fail)
    refine (sameE_at l hn.out hx.out A7 c7 A c _ (Kd.C_below hC7.out (Below.refl _ _)) hl7.out (Kd.C_below hr.out (by repeat (first | with_reducible exact hw6 | refine Below.setCell ?_ (by have:=hw6.size; simp <;> omega) _ | refine Below.alloc ?_ (by have:=hw6.size; simp <;> omega) _ | refine Below.drew ?_))) hc.out).mono ?_
    rintro e w7 ⟨rfl,hb7⟩
    clear pc0 pc1 pc2 pc3 pc4 pc5 pc6
    have hs7 : Below w6.heap.size w6 w7:=two_steps (by repeat (first | exact Below.refl _ _ | refine Below.setCell ?_ (by simp <;> omega) _ | refine Below.alloc ?_ (by simp <;> omega) _ | refine Below.drew ?_)) hb7
    have hw7 : Below w.heap.size w w7:=hw6.trans (hs7.mono hw6.size)
    have xp:=blk_below xp hs7
    clear hb7
    obtain ⟨pc0,pc1,pc2,pc3,pc4,pc5,pc6⟩:=cells7 xp
    go_wp2
    go_ret
    exact ⟨rfl,(by repeat (first | with_reducible exact hw7 | refine Below.setCell ?_ (by have:=hw7.size; simp <;> omega) _ | refine Below.alloc ?_ (by have:=hw7.size; simp <;> omega) _ | refine Below.drew ?_))⟩
   ·have hne : (E != 0) = true:=by rw [bne_iff_ne]; exact hz
    have hne2 : (E == 0) = false:=by rw [beq_eq_false_iff_ne]; exact hz
    have hS':=hSn.out hz
    subst hS'
    clear hz hS hSn
    go_wp2
    go_ret
    exact ⟨rfl,(by repeat (first | with_reducible exact hw4 | refine Below.setCell ?_ (by have:=hw4.size; simp <;> omega) _ | refine Below.alloc ?_ (by have:=hw4.size; simp <;> omega) _ | refine Below.drew ?_))⟩
end Go.Proofs.YthhohbidjhcjeaaGreatDoor.H
namespace Go.Proofs.YthhohbidjhcjeaaGreatDoor.RInvertUndoes
open Go.ChangeShapes Go.WideShapes Go.ChangeAt Go.RowKit Go.Proofs.YthhohbidjhcjeaaGreatDoorW.PrintWords Go.Proofs.YthhohbidjhcjeaaGreatDoorW.PrintMore Go.Proofs.YthhohbidjhcjeaaGreatDoor.Q Go.Proofs.YthhohbidjhcjeaaGreatDoor.Op Go.Proofs.YthhohbidjhcjeaaGreatDoor.Pl Go.Proofs.YthhohbidjhcjeaaGreatDoor.Od
set_option maxRecDepth 100000 in
theorem lifted (os : Os) (started : os.Started) (H : Type) (enc : TypeId × Value → H) :
  ReturnsInHanded {} Tryz.checked os 10 .any (fun w args => (Rows.invertUndoesSpec.pre enc Tryz.prog Tryz.f10 [] false w args ∧ laidMetH Tryz.prog laidTabs w) ∧ sizedMet enc Tryz.prog Tryz.f10 (OpenSpec.ofChange Rows.invertUndoesSpec) false w args)
   (Rows.invertUndoesSpec.post enc Tryz.prog Tryz.f10 false true false false):=by
 refine returnsInHanded_of_change_and (C:=Tryz.checked) (X:=fun w _ => laidMetH Tryz.prog laidTabs w) (fun _ _ _ hh h => h.of_heap hh) own started (by kernel_rfl) Tryz.func10
  (ChangeSpec.witness_shaped (enc:=enc) (C:=Tryz.checked) (os:=os) (X:=fun w _ => laidMetH Tryz.prog laidTabs w) false (World.laidAll Tryz.prog os laidTabs) #[.slice none 0 0,.agg #[.int .i64 0,.string ByteArray.empty,.string ByteArray.empty,.string ByteArray.empty,.int .i64 0,.slice none 0 0,.slice none 0 0]] 8 (World.laidAll_os _ _ _)
   (World.shaped_of_ZipB (by kernel_rfl) (by kernel_rfl)) (by kernel_rfl) (by kernel_rfl) (by kernel_rfl)
   (by rw [MakeChecks.laidMetH_plain _ _ _ (by kernel_rfl)]; exact laidMet_laidAll _ (by kernel_rfl) (by kernel_rfl))) ?_
 intro W base args ds gs before hval0 hW _ hsz0 hL _
 have hsz : (DataW.weightsEach Tryz.prog (Tryz.f10.params.toList ++ Rows.invertUndoesSpec.plain.varTypes Tryz.prog) (ds ++ gs)).all (· ≤ reachBytes) = true:=hsz0
 have hval : ∀ (j : Nat) t v,Tryz.f10.params[j]? = some t → args[j]? = some v → Value.okWide Tryz.prog W .any base t v:=hval0
 have hW':=hW
 obtain ⟨p,q,hA0,hV,rfl,hfz,hnd⟩:=hW
 have hA : DataW.TrodAll enc Tryz.prog W 0 (fun _ => true) true Tryz.f10.params.toList args.toList ds p:=hA0
 rw [Tryz.params10] at hA hval hsz
 obtain ⟨v0,vs0,d0,ds0,p0,q0,hargs,rfl,rfl,h0,r0⟩:=trodAll_cons hA
 obtain ⟨v1,vs1,d1,ds1,p1,q1,rfl,rfl,rfl,h1,r1⟩:=trodAll_cons r0
 obtain ⟨rfl,rfl,rfl⟩:=trodAll_nil r1
 obtain rfl : args = #[v0,v1]:=by cases args; simp_all
 obtain ⟨rfl,rfl⟩:=trodVars_none hV
 have k0:=h0
 have lt0 : ∀ x ∈ p0,x.block < W.heap.size:=by obtain ⟨m,hm⟩:=k0; exact DataW.trod_lt m _ _ _ hm
 obtain ⟨x0,hK0,hG0⟩:=opened o22 h0 hsz (j:=0) rfl rfl
 obtain ⟨B0,u0,hc0,lu0,g0⟩:=hK0
 obtain ⟨b0,n0,m0,rfl⟩:=okWide_slice Tryz.underlying22 (hval 0 22 v0 rfl rfl)
 obtain ⟨rfl,rfl,rfl⟩ : b0 = B0 ∧ n0 = x0.length ∧ m0 = u0:=by simpa [Value.cells] using hc0
 obtain ⟨_,hb0,hg0⟩:=hG0
 have k1:=h1
 have lt1 : ∀ x ∈ p1,x.block < W.heap.size:=by obtain ⟨m,hm⟩:=k1; exact DataW.trod_lt m _ _ _ hm
 obtain ⟨x1,hK1,hG1⟩:=opened o25 h1 hsz (j:=1) rfl rfl
 obtain ⟨c1,rfl,_⟩:=okWide_struct Tryz.underlying25 (hval 1 25 v1 rfl rfl)
 obtain ⟨A15,c15,A16,c16,hc1,l15,g15,l16,g16⟩:=k25_open hK1
 obtain rfl : c1 = #[.int .i64 x1.f0,.string x1.f1,.string x1.f2,.string x1.f3,.int .i64 x1.f4,.slice A15 x1.f5.length c15,.slice A16 x1.f6.length c16]:=by rw [← Array.toList_inj]; exact hc1
 clear hA0 hval0 hsz0 hsz
 refine (Go.Proofs.YthhohbidjhcjeaaGreatDoor.H.undoes_calls x0 b0 m0 x1 A15 c15 A16 c16 W g0 lu0 (by omega) (fun x hx => (hg0 x hx).n) hG1 ⟨g15,l15,g16,l16⟩).mono fun e W' ⟨he,bel⟩ => ?_
 subst he
 exact ⟨_,rfl,_,_,_,[],_,[],hW',trodAll_mk1 (shut_bool Tryz.underlying4 _),(trodAll_cons_mk (Below.trod laidOut (by kernel_rfl) (of_decide_eq_true (by kernel_rfl)) k0 bel lt0) (trodAll_cons_mk (Below.trod laidOut (by kernel_rfl) (of_decide_eq_true (by kernel_rfl)) k1 bel lt1) trodAll_mk0)),rfl,bel.frame _,fun h => by cases h⟩
theorem band {a b : Bool} (ha : a = true) (hb : b = true) : (a && b) = true:=by rw [ha,hb]; rfl
set_option maxHeartbeats 4000000 in
theorem facts : joinedFacts Tryz.prog 10 Tryz.f10 Rows.invertUndoesSpec Rows.invertUndoesRow = true:=by
 unfold joinedFacts
 repeat' (with_reducible refine band ?_ ?_)
 all_goals (first | (with_reducible exact heads.1) | (rw [heads.2.1]; rfl) | (rw [heads.2.2.1]; rfl) | (as_aux_lemma => kernel_rfl))
set_option maxHeartbeats 4000000 in
theorem over : Rows.invertUndoesRow.holds Tryz.pinned (OpenSpec.ofChange Rows.invertUndoesSpec) :=
 OpenClaim.holds_of_wide 10 Tryz.f10 rfl rfl rfl rfl rfl rfl rfl ⟨rfl,rfl,rfl,rfl,rfl⟩ rfl rfl rfl rfl rfl (by as_aux_lemma => kernel_rfl) Tryz.func10 facts
  (of_decide_eq_true (by as_aux_lemma => kernel_rfl)) (by unfold Func.isWrapper; first | (rw [if_pos (by decide +kernel)]; kernel_rfl) | (rw [if_neg (by decide +kernel)]; exact ⟨rfl,rfl⟩))
  (fun os started H enc _ => lifted os started H enc)
set_option maxHeartbeats 4000000 in
theorem card : Rows.InvertUndoesCardSaid :=
 Claim7.holds_tied_plain_at .later [] [.data, .pinned] true (true, "b2c3b2d2b50221d5631762a848752805bff427337fd1c8fab364110e20b5edb9") false over (fun _ h => by cases h) (by as_aux_lemma => kernel_rfl) (fun _ h => by cases h) invertUndoes_row_tie rfl ⟨rfl, rfl⟩ heads.2.2.2 rfl
  (fun f fn hf hfn => by
   obtain rfl : f = 10:=Option.some.inj ((show Tryz.prog.funcNamed Rows.invertUndoesRow.func = some 10 by as_aux_lemma => kernel_rfl).symm.trans hf) |>.symm
   obtain rfl : fn = Tryz.f10:=(Option.some.inj (Tryz.func10.symm.trans hfn)).symm
   exact ⟨by as_aux_lemma => kernel_rfl,fun j t ht => by
    rw [Tryz.params10] at ht
    have hm : t ∈ [22,25]:=by simpa using Array.mem_of_getElem? ht
    have hall : ([22,25].all fun u => !Tryz.prog.wantsStandIn u) = true:=by as_aux_lemma => kernel_rfl
    exact (show Tryz.prog.wantsStandIn t = false by simpa using List.all_eq_true.1 hall t hm)⟩)
  (by as_aux_lemma => kernel_rfl)
end Go.Proofs.YthhohbidjhcjeaaGreatDoor.RInvertUndoes
namespace Go.Proofs.YthhohbidjhcjeaaGreatDoor
/-- The card of InvertUndoes. -/
theorem InvertUndoes_card : Rows.InvertUndoesCardSaid:=RInvertUndoes.card
#print axioms InvertUndoes_card
end Go.Proofs.YthhohbidjhcjeaaGreatDoor
