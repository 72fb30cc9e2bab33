/- The statement InvertAll holds: whatever the input the law returns true, and the input reads behind the call as before; the listed tables are tied to the program's text. -/
import Derived.Test.YthhohbidjhcjeaaGreatDoorBM8
import Derived.Test.YthhohbidjhcjeaaGreatDoorRows
import Derived.Test.YthhohbidjhcjeaaGreatDoorCards
import Derived.Test.YthhohbidjhcjeaaGreatDoorTie
import Derived.WalkKit
import Derived.ProofKit
import Derived.OpenShut
import Derived.ShutString
import Derived.ChangeOld
import Derived.Below
import Derived.SizedLaws
import Derived.Lay
import Derived.LaidOnce
import Derived.LaidMore
import Derived.SevenTiedAt
namespace Go.Proofs.YthhohbidjhcjeaaGreatDoor.H
open Go.RowKit Go.Shelf Go.Proofs.YthhohbidjhcjeaaGreatDoorW.PrintWords Go.Proofs.YthhohbidjhcjeaaGreatDoorW.PrintLast Go.Proofs.YthhohbidjhcjeaaGreatDoorW.PrintMore
open Go.Proofs.YthhohbidjhcjeaaGreatDoor.Q Go.Proofs.YthhohbidjhcjeaaGreatDoor.Pl
set_option linter.unusedVariables false
set_option linter.unusedSimpArgs false
set_option maxHeartbeats 4000000 in
set_option maxRecDepth 1000000 in
theorem undoall_calls (l : List S41) (A : Option Addr) (c : Nat) (ps : List S25) (P : Option Addr) (d : Nat) (w : World) (hr : Kd.C k41 w A l.length l) (hc : l.length ≤ c) (hn : l.length ≤ 140737488355328) (hx : ∀ x ∈ l,x.f2.length ≤ 140737488355328) (hps : Kd.C k25 w P ps.length ps) (hd : ps.length ≤ d) (hm : ps.length ≤ 1256584717458) (ho : ∀ p ∈ ps,Okp p) :
  Calls Tryz.prog 11 #[.slice A l.length c,.slice P ps.length d] w fun e w' => e = .returned (.bool true) ∧ Below w.heap.size w w':=by
 obtain ⟨g,hgs,hG⟩:=G_at l A c w hr hc hn hx
 obtain ⟨k,hks,hK⟩:=GL_at ps P d w hps hd hm ho
 replace hG:=Aside0.mk hG
 replace hK:=Aside0.mk hK
 replace hgs:=Aside0.mk hgs
 replace hks:=Aside0.mk hks
 replace hn:=Aside0.mk hn
 replace hx:=Aside0.mk hx
 replace hr:=Aside0.mk hr
 replace hc:=Aside0.mk hc
 replace hps:=Aside0.mk hps
 replace hd:=Aside0.mk hd
 replace hm:=Aside0.mk hm
 replace ho:=Aside0.mk ho
 go_enter Tryz.func11,Tryz.ntmps11
 go_wp2_with (fail)
 refine (head_calls _).mono ?_
 rintro e w1 ⟨rfl,hb1⟩
 have hs1 : Below w.heap.size w w1:=two_steps (by repeat (first | exact Below.refl _ _ | refine Below.setCell ?_ (by simp <;> omega) _ | refine Below.alloc ?_ (by simp <;> omega) _ | refine Below.drew ?_)) hb1
 have hw1 : Below w.heap.size w w1:=(Below.refl w.heap.size w).trans (hs1.mono (Below.refl w.heap.size w).size)
 clear hb1
 go_wp2_with (fail)
 refine (hG.out _ (by repeat (first | with_reducible exact hw1 | refine Below.setCell ?_ (by have:=hw1.size; simp <;> omega) _ | refine Below.alloc ?_ (by have:=hw1.size; simp <;> omega) _ | refine Below.drew ?_))).mono ?_
 rintro e w2 ⟨rfl,hb2⟩
 have hs2 : Below w1.heap.size w1 w2:=two_steps (by repeat (first | exact Below.refl _ _ | refine Below.setCell ?_ (by simp <;> omega) _ | refine Below.alloc ?_ (by simp <;> omega) _ | refine Below.drew ?_)) hb2
 have hw2 : Below w.heap.size w w2:=hw1.trans (hs2.mono hw1.size)
 clear hb2
 cases g with
 | true =>
  go_wp2
  go_ret
  exact ⟨rfl,(by repeat (first | with_reducible exact hw2 | refine Below.setCell ?_ (by have:=hw2.size; simp <;> omega) _ | refine Below.alloc ?_ (by have:=hw2.size; simp <;> omega) _ | refine Below.drew ?_))⟩
 | false =>
  go_wp2_with (fail)
  refine (hK.out _ (by repeat (first | with_reducible exact hw2 | refine Below.setCell ?_ (by have:=hw2.size; simp <;> omega) _ | refine Below.alloc ?_ (by have:=hw2.size; simp <;> omega) _ | refine Below.drew ?_))).mono ?_
  rintro e w3 ⟨rfl,hb3⟩
  have hs3 : Below w2.heap.size w2 w3:=two_steps (by repeat (first | exact Below.refl _ _ | refine Below.setCell ?_ (by simp <;> omega) _ | refine Below.alloc ?_ (by simp <;> omega) _ | refine Below.drew ?_)) hb3
  have hw3 : Below w.heap.size w w3:=hw2.trans (hs3.mono hw2.size)
  clear hb3
  cases k with
  | true =>
   go_wp2
   go_ret
   exact ⟨rfl,(by repeat (first | with_reducible exact hw3 | refine Below.setCell ?_ (by have:=hw3.size; simp <;> omega) _ | refine Below.alloc ?_ (by have:=hw3.size; simp <;> omega) _ | refine Below.drew ?_))⟩
  | false =>
   have hsm:=Aside0.mk (hgs.out (by trivial)).2
   have hsp:=Aside0.mk (hks.out (by trivial))
   have hq : Aside0 (∀ p ∈ ps,SmallQ p):=⟨fun p hp => smallq (hsp.out.2 p hp)⟩
   have hA:=L_at 4000 l A c ps P d w hr.out hps.out (small_bnd hsm.out) (by decide) (by have:=hsp.out.1; omega) hq.out
   have hor:=allE_or l ps
   obtain ⟨R,hR⟩ : ∃ R,allE l ps = R:=⟨_,rfl⟩
   rw [hR] at hA hor
   obtain ⟨M,E,J⟩:=R
   dsimp only at hA
   replace hA:=Aside0.mk hA
   replace hor:=Aside0.mk hor
   clear hR
   go_wp2_with (fail)
   refine (hA.out _ (by repeat (first | with_reducible exact hw3 | refine Below.setCell ?_ (by have:=hw3.size; simp <;> omega) _ | refine Below.alloc ?_ (by have:=hw3.size; simp <;> omega) _ | refine Below.drew ?_))).mono ?_
   rintro e w4 ⟨S,rfl,hb4,hS,hSn⟩
   have hs4 : Below w3.heap.size w3 w4:=two_steps (by repeat (first | exact Below.refl _ _ | refine Below.setCell ?_ (by simp <;> omega) _ | refine Below.alloc ?_ (by simp <;> omega) _ | refine Below.drew ?_)) hb4
   have hw4 : Below w.heap.size w w4:=hw3.trans (hs4.mono hw3.size)
   replace hS:=Aside0.mk hS
   replace hSn:=Aside0.mk hSn
   clear hb4
   by_cases hz : E = 0
   ·subst hz
    obtain ⟨A4,c4,rfl,hl4,hC4⟩:=hS.out (by trivial)
    clear hS hSn
    replace hC4:=Aside0.mk hC4
    replace hl4:=Aside0.mk hl4
    have hrun : Aside0 (treeB l = true ∧ runV l ps = some M):=⟨by
     rcases hor.out with ⟨k,h1,h2,h3⟩ | ⟨e,j,h1,h2,_⟩
     ·simp only [Prod.mk.injEq] at h3; rw [h3.1]; exact ⟨h1,h2⟩
     ·simp only [Prod.mk.injEq] at h2; exact absurd h2.2.1.symm h1⟩
    have hbM:=Aside0.mk (bnd_run ps 4000 l M (small_bnd hsm.out) hq.out hrun.out.2)
    have hback:=Aside0.mk (allE_run (tree_iff.2 (run_tree ps l M (tree_iff.1 hrun.out.1) hrun.out.2)) (undo_all ps l M hrun.out.2))
    have hq2 : Aside0 (∀ p ∈ ps.reverse.map invS,SmallQ p):=⟨fun p hp => by obtain ⟨x,hx,rfl⟩:=List.mem_map.1 hp; exact (hq.out x (List.mem_reverse.1 hx)).inv⟩
    have hlen : Aside0 ((ps.reverse.map invS).length = ps.length):=⟨by simp⟩
    obtain ⟨qs,hqs⟩ : ∃ qs,ps.reverse.map invS = qs:=⟨_,rfl⟩
    have hI:=fun U hU => I_at ps P d U (Kd.C_below hps.out hU) hd.out hm.out
    rw [hqs] at hI hq2 hback hlen
    replace hI:=Aside0.mk hI
    clear hqs
    go_wp2_with (fail)
    refine (hI.out _ (by repeat (first | with_reducible exact hw4 | refine Below.setCell ?_ (by have:=hw4.size; simp <;> omega) _ | refine Below.alloc ?_ (by have:=hw4.size; simp <;> omega) _ | refine Below.drew ?_))).mono ?_
    rintro e w5 ⟨A5,c5,rfl,hl5,hC5,hb5⟩
    have hs5 : Below w4.heap.size w4 w5:=two_steps (by repeat (first | exact Below.refl _ _ | refine Below.setCell ?_ (by simp <;> omega) _ | refine Below.alloc ?_ (by simp <;> omega) _ | refine Below.drew ?_)) hb5
    have hw5 : Below w.heap.size w w5:=hw4.trans (hs5.mono hw4.size)
    replace hC5:=Aside0.mk hC5
    have hC6:=Aside0.mk (Kd.C_below hC4.out hs5)
    clear hb5
    have hA2:=L_at (4000 + 4000 * ps.length) M A4 c4 qs A5 c5 _ hC6.out hC5.out hbM.out (by have:=hsp.out.1; omega) (by have:=hsp.out.1; have:=hlen.out; omega) hq2.out _ (Below.refl _ _)
    rw [hback.out] at hA2
    dsimp only at hA2
    go_wp2_with (fail)
    refine (hA2).mono ?_
    rintro e w6 ⟨S,rfl,hb6,hS,-⟩
    have hs6 : Below w5.heap.size w5 w6:=two_steps (by repeat (first | exact Below.refl _ _ | refine Below.setCell ?_ (by simp <;> omega) _ | refine Below.alloc ?_ (by simp <;> omega) _ | refine Below.drew ?_)) hb6
    have hw6 : Below w.heap.size w w6:=hw5.trans (hs6.mono hw5.size)
    obtain ⟨A7,c7,rfl,hl7,hC7⟩:=hS (by trivial)
    clear hS
    replace hC7:=Aside0.mk hC7
    replace hl7:=Aside0.mk hl7
    clear hb6
    go_wp2_with (fail)
    refine (sameE_at l hn.out hx.out A7 c7 A c _ (Kd.C_below hC7.out (Below.refl _ _)) hl7.out (Kd.C_below hr.out (by repeat (first | with_reducible exact hw6 | refine Below.setCell ?_ (by have:=hw6.size; simp <;> omega) _ | refine Below.alloc ?_ (by have:=hw6.size; simp <;> omega) _ | refine Below.drew ?_))) hc.out).mono ?_
    rintro e w7 ⟨rfl,hb7⟩
    have hs7 : Below w6.heap.size w6 w7:=two_steps (by repeat (first | exact Below.refl _ _ | refine Below.setCell ?_ (by simp <;> omega) _ | refine Below.alloc ?_ (by simp <;> omega) _ | refine Below.drew ?_)) hb7
    have hw7 : Below w.heap.size w w7:=hw6.trans (hs7.mono hw6.size)
    clear hb7
    go_wp2
    go_ret
    exact ⟨rfl,(by repeat (first | with_reducible exact hw7 | refine Below.setCell ?_ (by have:=hw7.size; simp <;> omega) _ | refine Below.alloc ?_ (by have:=hw7.size; simp <;> omega) _ | refine Below.drew ?_))⟩
   ·have hne : (E != 0) = true:=by rw [bne_iff_ne]; exact hz
    have hne2 : (E == 0) = false:=by rw [beq_eq_false_iff_ne]; exact hz
    have hS':=hSn.out hz
    subst hS'
    clear hz hS hSn hor
    go_wp2
    go_ret
    exact ⟨rfl,(by repeat (first | with_reducible exact hw4 | refine Below.setCell ?_ (by have:=hw4.size; simp <;> omega) _ | refine Below.alloc ?_ (by have:=hw4.size; simp <;> omega) _ | refine Below.drew ?_))⟩
end Go.Proofs.YthhohbidjhcjeaaGreatDoor.H
namespace Go.Proofs.YthhohbidjhcjeaaGreatDoor.RInvertAll
open Go.ChangeShapes Go.WideShapes Go.ChangeAt Go.RowKit Go.Proofs.YthhohbidjhcjeaaGreatDoorW.PrintWords Go.Proofs.YthhohbidjhcjeaaGreatDoorW.PrintMore Go.Proofs.YthhohbidjhcjeaaGreatDoor.Q Go.Proofs.YthhohbidjhcjeaaGreatDoor.Op Go.Proofs.YthhohbidjhcjeaaGreatDoor.Pl Go.Proofs.YthhohbidjhcjeaaGreatDoor.Od
set_option maxRecDepth 100000 in
theorem lifted (os : Os) (started : os.Started) (H : Type) (enc : TypeId × Value → H) :
  ReturnsInHanded {} Tryz.checked os 11 .any (fun w args => (Rows.invertAllSpec.pre enc Tryz.prog Tryz.f11 [] false w args ∧ laidMetH Tryz.prog laidTabs w) ∧ sizedMet enc Tryz.prog Tryz.f11 (OpenSpec.ofChange Rows.invertAllSpec) false w args)
   (Rows.invertAllSpec.post enc Tryz.prog Tryz.f11 false true false false):=by
 refine returnsInHanded_of_change_and (C:=Tryz.checked) (X:=fun w _ => laidMetH Tryz.prog laidTabs w) (fun _ _ _ hh h => h.of_heap hh) own started (by kernel_rfl) Tryz.func11
  (ChangeSpec.witness_shaped (enc:=enc) (C:=Tryz.checked) (os:=os) (X:=fun w _ => laidMetH Tryz.prog laidTabs w) false (World.laidAll Tryz.prog os laidTabs) #[.slice none 0 0,.slice none 0 0] 8 (World.laidAll_os _ _ _)
   (World.shaped_of_ZipB (by kernel_rfl) (by kernel_rfl)) (by kernel_rfl) (by kernel_rfl) (by kernel_rfl)
   (by rw [MakeChecks.laidMetH_plain _ _ _ (by kernel_rfl)]; exact laidMet_laidAll _ (by kernel_rfl) (by kernel_rfl))) ?_
 intro W base args ds gs before hval0 hW _ hsz0 hL _
 have hsz : (DataW.weightsEach Tryz.prog (Tryz.f11.params.toList ++ Rows.invertAllSpec.plain.varTypes Tryz.prog) (ds ++ gs)).all (· ≤ reachBytes) = true:=hsz0
 have hval : ∀ (j : Nat) t v,Tryz.f11.params[j]? = some t → args[j]? = some v → Value.okWide Tryz.prog W .any base t v:=hval0
 have hW':=hW
 obtain ⟨p,q,hA0,hV,rfl,hfz,hnd⟩:=hW
 have hA : DataW.TrodAll enc Tryz.prog W 0 (fun _ => true) true Tryz.f11.params.toList args.toList ds p:=hA0
 rw [Tryz.params11] at hA hval hsz
 obtain ⟨v0,vs0,d0,ds0,p0,q0,hargs,rfl,rfl,h0,r0⟩:=trodAll_cons hA
 obtain ⟨v1,vs1,d1,ds1,p1,q1,rfl,rfl,rfl,h1,r1⟩:=trodAll_cons r0
 obtain ⟨rfl,rfl,rfl⟩:=trodAll_nil r1
 obtain rfl : args = #[v0,v1]:=by cases args; simp_all
 obtain ⟨rfl,rfl⟩:=trodVars_none hV
 have k0:=h0
 have lt0 : ∀ x ∈ p0,x.block < W.heap.size:=by obtain ⟨m,hm⟩:=k0; exact DataW.trod_lt m _ _ _ hm
 obtain ⟨x0,hK0,hG0⟩:=opened o22 h0 hsz (j:=0) rfl rfl
 obtain ⟨B0,u0,hc0,lu0,g0⟩:=hK0
 obtain ⟨b0,n0,m0,rfl⟩:=okWide_slice Tryz.underlying22 (hval 0 22 v0 rfl rfl)
 obtain ⟨rfl,rfl,rfl⟩ : b0 = B0 ∧ n0 = x0.length ∧ m0 = u0:=by simpa [Value.cells] using hc0
 obtain ⟨_,hb0,hg0⟩:=hG0
 have k1:=h1
 have lt1 : ∀ x ∈ p1,x.block < W.heap.size:=by obtain ⟨m,hm⟩:=k1; exact DataW.trod_lt m _ _ _ hm
 obtain ⟨x1,hK1,hG1⟩:=opened o34 h1 hsz (j:=1) rfl rfl
 obtain ⟨B1,u1,hc1,lu1,g1⟩:=hK1
 obtain ⟨b1,n1,m1,rfl⟩:=okWide_slice Tryz.underlying34 (hval 1 34 v1 rfl rfl)
 obtain ⟨rfl,rfl,rfl⟩ : b1 = B1 ∧ n1 = x1.length ∧ m1 = u1:=by simpa [Value.cells] using hc1
 obtain ⟨_,hb1,hg1⟩:=hG1
 clear hA0 hval0 hsz0 hsz
 refine (Go.Proofs.YthhohbidjhcjeaaGreatDoor.H.undoall_calls x0 b0 m0 x1 b1 m1 W g0 lu0 (by omega) (fun x hx => (hg0 x hx).n) g1 lu1 (by omega) hg1).mono fun e W' ⟨he,bel⟩ => ?_
 subst he
 exact ⟨_,rfl,_,_,_,[],_,[],hW',trodAll_mk1 (shut_bool Tryz.underlying4 _),(trodAll_cons_mk (Below.trod laidOut (by kernel_rfl) (of_decide_eq_true (by kernel_rfl)) k0 bel lt0) (trodAll_cons_mk (Below.trod laidOut (by kernel_rfl) (of_decide_eq_true (by kernel_rfl)) k1 bel lt1) trodAll_mk0)),rfl,bel.frame _,fun h => by cases h⟩
theorem band {a b : Bool} (ha : a = true) (hb : b = true) : (a && b) = true:=by rw [ha,hb]; rfl
set_option maxHeartbeats 4000000 in
theorem facts : joinedFacts Tryz.prog 11 Tryz.f11 Rows.invertAllSpec Rows.invertAllRow = true:=by
 unfold joinedFacts
 repeat' (with_reducible refine band ?_ ?_)
 all_goals (first | (with_reducible exact heads.1) | (rw [heads.2.1]; rfl) | (rw [heads.2.2.1]; rfl) | (as_aux_lemma => kernel_rfl))
set_option maxHeartbeats 4000000 in
theorem over : Rows.invertAllRow.holds Tryz.pinned (OpenSpec.ofChange Rows.invertAllSpec) :=
 OpenClaim.holds_of_wide 11 Tryz.f11 rfl rfl rfl rfl rfl rfl rfl ⟨rfl,rfl,rfl,rfl,rfl⟩ rfl rfl rfl rfl rfl (by as_aux_lemma => kernel_rfl) Tryz.func11 facts
  (of_decide_eq_true (by as_aux_lemma => kernel_rfl)) (by unfold Func.isWrapper; first | (rw [if_pos (by decide +kernel)]; kernel_rfl) | (rw [if_neg (by decide +kernel)]; exact ⟨rfl,rfl⟩))
  (fun os started H enc _ => lifted os started H enc)
set_option maxHeartbeats 4000000 in
theorem card : Rows.InvertAllCardSaid :=
 Claim7.holds_tied_plain_at .later [] [.data, .pinned] true (true, "b2c3b2d2b50221d5631762a848752805bff427337fd1c8fab364110e20b5edb9") false over (fun _ h => by cases h) (by as_aux_lemma => kernel_rfl) (fun _ h => by cases h) invertAll_row_tie rfl ⟨rfl, rfl⟩ heads.2.2.2 rfl
  (fun f fn hf hfn => by
   obtain rfl : f = 11:=Option.some.inj ((show Tryz.prog.funcNamed Rows.invertAllRow.func = some 11 by as_aux_lemma => kernel_rfl).symm.trans hf) |>.symm
   obtain rfl : fn = Tryz.f11:=(Option.some.inj (Tryz.func11.symm.trans hfn)).symm
   exact ⟨by as_aux_lemma => kernel_rfl,fun j t ht => by
    rw [Tryz.params11] at ht
    have hm : t ∈ [22,34]:=by simpa using Array.mem_of_getElem? ht
    have hall : ([22,34].all fun u => !Tryz.prog.wantsStandIn u) = true:=by as_aux_lemma => kernel_rfl
    exact (show Tryz.prog.wantsStandIn t = false by simpa using List.all_eq_true.1 hall t hm)⟩)
  (by as_aux_lemma => kernel_rfl)
end Go.Proofs.YthhohbidjhcjeaaGreatDoor.RInvertAll
namespace Go.Proofs.YthhohbidjhcjeaaGreatDoor
/-- The card of InvertAll. -/
theorem InvertAll_card : Rows.InvertAllCardSaid:=RInvertAll.card
#print axioms InvertAll_card
end Go.Proofs.YthhohbidjhcjeaaGreatDoor
