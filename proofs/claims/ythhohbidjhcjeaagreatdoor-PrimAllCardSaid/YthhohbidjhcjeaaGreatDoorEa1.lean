/- The statement PrimAll holds: whatever the input the law returns true, and the input reads behind the call as before; the listed tables are tied to the program's text. -/
import Derived.Test.YthhohbidjhcjeaaGreatDoorRows
import Derived.Test.YthhohbidjhcjeaaGreatDoorCards
import Derived.Test.YthhohbidjhcjeaaGreatDoorTie
import Derived.Test.YthhohbidjhcjeaaGreatDoorEM9
import Derived.Test.YthhohbidjhcjeaaGreatDoorEM8
import Derived.WalkKit
import Derived.ProofKit
import Derived.OpenShut
import Derived.ShutString
import Derived.ChangeOld
import Derived.Below
import Derived.SizedLaws
import Derived.Lay
import Derived.LaidOnce
import Derived.LaidMore
import Derived.SevenTiedAt
namespace Go.Proofs.YthhohbidjhcjeaaGreatDoor.RPrimAll
open Go.ChangeShapes Go.WideShapes Go.ChangeAt Go.RowKit Go.Proofs.YthhohbidjhcjeaaGreatDoorW.PrintWords Go.Proofs.YthhohbidjhcjeaaGreatDoorW.PrintMore Go.Proofs.YthhohbidjhcjeaaGreatDoor.Q Go.Proofs.YthhohbidjhcjeaaGreatDoor.Op Go.Proofs.YthhohbidjhcjeaaGreatDoor.Pl Go.Proofs.YthhohbidjhcjeaaGreatDoor.Od
set_option maxRecDepth 100000 in
theorem lifted (os : Os) (started : os.Started) (H : Type) (enc : TypeId × Value → H) :
  ReturnsInHanded {} Tryz.checked os 4 .any (fun w args => (Rows.primAllSpec.pre enc Tryz.prog Tryz.f4 [] false w args ∧ laidMetH Tryz.prog laidTabs w) ∧ sizedMet enc Tryz.prog Tryz.f4 (OpenSpec.ofChange Rows.primAllSpec) false w args)
   (Rows.primAllSpec.post enc Tryz.prog Tryz.f4 false true false false):=by
 refine returnsInHanded_of_change_and (C:=Tryz.checked) (X:=fun w _ => laidMetH Tryz.prog laidTabs w) (fun _ _ _ hh h => h.of_heap hh) own started (by kernel_rfl) Tryz.func4
  (ChangeSpec.witness_shaped (enc:=enc) (C:=Tryz.checked) (os:=os) (X:=fun w _ => laidMetH Tryz.prog laidTabs w) false (World.laidAll Tryz.prog os laidTabs) #[.slice none 0 0,.slice none 0 0] 8 (World.laidAll_os _ _ _)
   (World.shaped_of_ZipB (by kernel_rfl) (by kernel_rfl)) (by kernel_rfl) (by kernel_rfl) (by kernel_rfl)
   (by rw [MakeChecks.laidMetH_plain _ _ _ (by kernel_rfl)]; exact laidMet_laidAll _ (by kernel_rfl) (by kernel_rfl))) ?_
 intro W base args ds gs before hval0 hW _ hsz0 hL _
 have hsz : (DataW.weightsEach Tryz.prog (Tryz.f4.params.toList ++ Rows.primAllSpec.plain.varTypes Tryz.prog) (ds ++ gs)).all (· ≤ reachBytes) = true:=hsz0
 have hval : ∀ (j : Nat) t v,Tryz.f4.params[j]? = some t → args[j]? = some v → Value.okWide Tryz.prog W .any base t v:=hval0
 have hW':=hW
 obtain ⟨p,q,hA0,hV,rfl,hfz,hnd⟩:=hW
 have hA : DataW.TrodAll enc Tryz.prog W 0 (fun _ => true) true Tryz.f4.params.toList args.toList ds p:=hA0
 rw [Tryz.params4] at hA hval hsz
 obtain ⟨v0,vs0,d0,ds0,p0,q0,hargs,rfl,rfl,h0,r0⟩:=trodAll_cons hA
 obtain ⟨v1,vs1,d1,ds1,p1,q1,rfl,rfl,rfl,h1,r1⟩:=trodAll_cons r0
 obtain ⟨rfl,rfl,rfl⟩:=trodAll_nil r1
 obtain rfl : args = #[v0,v1]:=by cases args; simp_all
 obtain ⟨rfl,rfl⟩:=trodVars_none hV
 have k0:=h0
 have lt0 : ∀ x ∈ p0,x.block < W.heap.size:=by obtain ⟨m,hm⟩:=k0; exact DataW.trod_lt m _ _ _ hm
 obtain ⟨x0,hK0,hG0⟩:=opened o22 h0 hsz (j:=0) rfl rfl
 obtain ⟨B0,u0,hc0,lu0,g0⟩:=hK0
 obtain ⟨b0,n0,m0,rfl⟩:=okWide_slice Tryz.underlying22 (hval 0 22 v0 rfl rfl)
 obtain ⟨rfl,rfl,rfl⟩ : b0 = B0 ∧ n0 = x0.length ∧ m0 = u0:=by simpa [Value.cells] using hc0
 obtain ⟨_,hb0,hg0⟩:=hG0
 have k1:=h1
 have lt1 : ∀ x ∈ p1,x.block < W.heap.size:=by obtain ⟨m,hm⟩:=k1; exact DataW.trod_lt m _ _ _ hm
 obtain ⟨x1,hK1,hG1⟩:=opened o34 h1 hsz (j:=1) rfl rfl
 obtain ⟨B1,u1,hc1,lu1,g1⟩:=hK1
 obtain ⟨b1,n1,m1,rfl⟩:=okWide_slice Tryz.underlying34 (hval 1 34 v1 rfl rfl)
 obtain ⟨rfl,rfl,rfl⟩ : b1 = B1 ∧ n1 = x1.length ∧ m1 = u1:=by simpa [Value.cells] using hc1
 obtain ⟨_,hb1,hg1⟩:=hG1
 clear hA0 hval0 hsz0 hsz
 refine (Go.Proofs.YthhohbidjhcjeaaGreatDoor.H.pall_calls x0 b0 m0 x1 b1 m1 W g0 lu0 (by omega) (fun x hx => (hg0 x hx).n) g1 lu1 (by omega) hg1).mono fun e W' ⟨he,bel⟩ => ?_
 subst he
 exact ⟨_,rfl,_,_,_,[],_,[],hW',trodAll_mk1 (shut_bool Tryz.underlying4 _),(trodAll_cons_mk (Below.trod laidOut (by kernel_rfl) (of_decide_eq_true (by kernel_rfl)) k0 bel lt0) (trodAll_cons_mk (Below.trod laidOut (by kernel_rfl) (of_decide_eq_true (by kernel_rfl)) k1 bel lt1) trodAll_mk0)),rfl,bel.frame _,fun h => by cases h⟩
theorem band {a b : Bool} (ha : a = true) (hb : b = true) : (a && b) = true:=by rw [ha,hb]; rfl
set_option maxHeartbeats 4000000 in
theorem facts : joinedFacts Tryz.prog 4 Tryz.f4 Rows.primAllSpec Rows.primAllRow = true:=by
 unfold joinedFacts
 repeat' (with_reducible refine band ?_ ?_)
 all_goals (first | (with_reducible exact heads.1) | (rw [heads.2.1]; rfl) | (rw [heads.2.2.1]; rfl) | (as_aux_lemma => kernel_rfl))
set_option maxHeartbeats 4000000 in
theorem over : Rows.primAllRow.holds Tryz.pinned (OpenSpec.ofChange Rows.primAllSpec) :=
 OpenClaim.holds_of_wide 4 Tryz.f4 rfl rfl rfl rfl rfl rfl rfl ⟨rfl,rfl,rfl,rfl,rfl⟩ rfl rfl rfl rfl rfl (by as_aux_lemma => kernel_rfl) Tryz.func4 facts
  (of_decide_eq_true (by as_aux_lemma => kernel_rfl)) (by unfold Func.isWrapper; first | (rw [if_pos (by decide +kernel)]; kernel_rfl) | (rw [if_neg (by decide +kernel)]; exact ⟨rfl,rfl⟩))
  (fun os started H enc _ => lifted os started H enc)
set_option maxHeartbeats 4000000 in
theorem card : Rows.PrimAllCardSaid :=
 Claim7.holds_tied_plain_at .later [] [.data, .pinned] true (true, "b2c3b2d2b50221d5631762a848752805bff427337fd1c8fab364110e20b5edb9") false over (fun _ h => by cases h) (by as_aux_lemma => kernel_rfl) (fun _ h => by cases h) primAll_row_tie rfl ⟨rfl, rfl⟩ heads.2.2.2 rfl
  (fun f fn hf hfn => by
   obtain rfl : f = 4:=Option.some.inj ((show Tryz.prog.funcNamed Rows.primAllRow.func = some 4 by as_aux_lemma => kernel_rfl).symm.trans hf) |>.symm
   obtain rfl : fn = Tryz.f4:=(Option.some.inj (Tryz.func4.symm.trans hfn)).symm
   exact ⟨by as_aux_lemma => kernel_rfl,fun j t ht => by
    rw [Tryz.params4] at ht
    have hm : t ∈ [22,34]:=by simpa using Array.mem_of_getElem? ht
    have hall : ([22,34].all fun u => !Tryz.prog.wantsStandIn u) = true:=by as_aux_lemma => kernel_rfl
    exact (show Tryz.prog.wantsStandIn t = false by simpa using List.all_eq_true.1 hall t hm)⟩)
  (by as_aux_lemma => kernel_rfl)
end Go.Proofs.YthhohbidjhcjeaaGreatDoor.RPrimAll
namespace Go.Proofs.YthhohbidjhcjeaaGreatDoor
/-- The card of PrimAll. -/
theorem PrimAll_card : Rows.PrimAllCardSaid:=RPrimAll.card
#print axioms PrimAll_card
end Go.Proofs.YthhohbidjhcjeaaGreatDoor
