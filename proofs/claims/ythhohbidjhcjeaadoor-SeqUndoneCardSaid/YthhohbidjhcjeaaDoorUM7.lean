/- The statement SeqUndone holds: whatever the input the law returns true, and the input reads behind the call as before; the listed tables are tied to the program's text. -/
import Derived.Test.YthhohbidjhcjeaaDoorRows
import Derived.Test.YthhohbidjhcjeaaDoorCards
import Derived.Test.YthhohbidjhcjeaaDoorTie
import Derived.Test.YthhohbidjhcjeaaDoorUM2
import Derived.Test.YthhohbidjhcjeaaDoorUM6
import Derived.WalkKit
import Derived.ProofKit
import Derived.OpenShut
import Derived.ShutString
import Derived.ChangeOld
import Derived.Below
import Derived.SizedLaws
import Derived.Lay
import Derived.LaidOnce
import Derived.LaidMore
import Derived.SevenTiedAt
namespace Go.Proofs.YthhohbidjhcjeaaDoor.RSeqUndone
open Go.ChangeShapes Go.WideShapes Go.ChangeAt Go.RowKit Go.Proofs.YthhohbidjhcjeaaDoorW.PrintWords Go.Proofs.YthhohbidjhcjeaaDoorW.PrintMore Go.Proofs.YthhohbidjhcjeaaDoor.Q Go.Proofs.YthhohbidjhcjeaaDoor.Op Go.Proofs.YthhohbidjhcjeaaDoor.Pl Go.Proofs.YthhohbidjhcjeaaDoor.Od
set_option maxRecDepth 100000 in
theorem lifted (os : Os) (started : os.Started) (H : Type) (enc : TypeId × Value → H) :
  ReturnsInHanded {} Tryd.checked os 14 .any (fun w args => (Rows.seqUndoneSpec.pre enc Tryd.prog Tryd.f14 [] false w args ∧ laidMetH Tryd.prog laidTabs w) ∧ sizedMet enc Tryd.prog Tryd.f14 (OpenSpec.ofChange Rows.seqUndoneSpec) false w args)
   (Rows.seqUndoneSpec.post enc Tryd.prog Tryd.f14 false true false false):=by
 refine returnsInHanded_of_change_and (C:=Tryd.checked) (X:=fun w _ => laidMetH Tryd.prog laidTabs w) (fun _ _ _ hh h => h.of_heap hh) own started (by kernel_rfl) Tryd.func14
  (ChangeSpec.witness_shaped (enc:=enc) (C:=Tryd.checked) (os:=os) (X:=fun w _ => laidMetH Tryd.prog laidTabs w) false (World.laidAll Tryd.prog os laidTabs) #[.slice none 0 0] 8 (World.laidAll_os _ _ _)
   (World.shaped_of_ZipB (by kernel_rfl) (by kernel_rfl)) (by kernel_rfl) (by kernel_rfl) (by kernel_rfl)
   (by rw [MakeChecks.laidMetH_plain _ _ _ (by kernel_rfl)]; exact laidMet_laidAll _ (by kernel_rfl) (by kernel_rfl))) ?_
 intro W base args ds gs before hval0 hW _ hsz0 hL _
 have hsz : (DataW.weightsEach Tryd.prog (Tryd.f14.params.toList ++ Rows.seqUndoneSpec.plain.varTypes Tryd.prog) (ds ++ gs)).all (· ≤ reachBytes) = true:=hsz0
 have hval : ∀ (j : Nat) t v,Tryd.f14.params[j]? = some t → args[j]? = some v → Value.okWide Tryd.prog W .any base t v:=hval0
 have hW':=hW
 obtain ⟨p,q,hA0,hV,rfl,hfz,hnd⟩:=hW
 have hA : DataW.TrodAll enc Tryd.prog W 0 (fun _ => true) true Tryd.f14.params.toList args.toList ds p:=hA0
 rw [Tryd.params14] at hA hval hsz
 obtain ⟨v0,vs0,d0,ds0,p0,q0,hargs,rfl,rfl,h0,r0⟩:=trodAll_cons hA
 obtain ⟨rfl,rfl,rfl⟩:=trodAll_nil r0
 obtain rfl : args = #[v0]:=by cases args; simp_all
 obtain ⟨rfl,rfl⟩:=trodVars_none hV
 have k0:=h0
 have lt0 : ∀ x ∈ p0,x.block < W.heap.size:=by obtain ⟨m,hm⟩:=k0; exact DataW.trod_lt m _ _ _ hm
 obtain ⟨x0,hK0,hG0⟩:=opened o25 h0 hsz (j:=0) rfl rfl
 obtain ⟨B0,u0,hc0,lu0,g0⟩:=hK0
 obtain ⟨b0,n0,m0,rfl⟩:=okWide_slice Tryd.underlying25 (hval 0 25 v0 rfl rfl)
 obtain ⟨rfl,rfl,rfl⟩ : b0 = B0 ∧ n0 = x0.length ∧ m0 = u0:=by simpa [Value.cells] using hc0
 obtain ⟨_,hb0,hg0⟩:=hG0
 clear hA0 hval0 hsz0 hsz
 refine (Go.Proofs.YthhohbidjhcjeaaDoor.H.undone_calls x0 b0 m0 W hg0 (by omega) g0 lu0).mono fun e W' ⟨he,bel⟩ => ?_
 subst he
 exact ⟨_,rfl,_,_,_,[],_,[],hW',trodAll_mk1 (shut_bool Tryd.underlying4 _),(trodAll_cons_mk (Below.trod laidOut (by kernel_rfl) (of_decide_eq_true (by kernel_rfl)) k0 bel lt0) trodAll_mk0),rfl,bel.frame _,fun h => by cases h⟩
theorem over : Rows.seqUndoneRow.holds Tryd.pinned (OpenSpec.ofChange Rows.seqUndoneSpec) :=
 OpenClaim.holds_of_wide 14 Tryd.f14 rfl rfl rfl rfl rfl rfl rfl ⟨rfl,rfl,rfl,rfl,rfl⟩ rfl rfl rfl rfl rfl (by kernel_rfl) Tryd.func14 (by kernel_rfl)
  (of_decide_eq_true (by kernel_rfl)) (by unfold Func.isWrapper; first | (rw [if_pos (by decide +kernel)]; kernel_rfl) | (rw [if_neg (by decide +kernel)]; exact ⟨rfl,rfl⟩))
  (fun os started H enc _ => lifted os started H enc)
theorem card : Rows.SeqUndoneCardSaid :=
 Claim7.holds_tied_plain_at .later [] [.data, .pinned] true (true, "0a251ecfe7ff6804b17a262088b2e9602ece1cbe531fc6497e775b1d705626d6") false over (fun _ h => by cases h) (by kernel_rfl) (fun _ h => by cases h) seqUndone_row_tie rfl ⟨rfl, rfl⟩ (by kernel_rfl) rfl
  (fun f fn hf hfn => by
   obtain rfl : f = 14:=Option.some.inj ((show Tryd.prog.funcNamed Rows.seqUndoneRow.func = some 14 by kernel_rfl).symm.trans hf) |>.symm
   obtain rfl : fn = Tryd.f14:=(Option.some.inj (Tryd.func14.symm.trans hfn)).symm
   exact ⟨by kernel_rfl,fun j t ht => by
    rw [Tryd.params14] at ht
    have hm : t ∈ [25]:=by simpa using Array.mem_of_getElem? ht
    have hall : ([25].all fun u => !Tryd.prog.wantsStandIn u) = true:=by kernel_rfl
    exact (show Tryd.prog.wantsStandIn t = false by simpa using List.all_eq_true.1 hall t hm)⟩)
  (by kernel_rfl)
end Go.Proofs.YthhohbidjhcjeaaDoor.RSeqUndone
namespace Go.Proofs.YthhohbidjhcjeaaDoor
/-- The card of SeqUndone. -/
theorem SeqUndone_card : Rows.SeqUndoneCardSaid:=RSeqUndone.card
#print axioms SeqUndone_card
end Go.Proofs.YthhohbidjhcjeaaDoor
