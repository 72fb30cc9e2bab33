/- The walk of commute.Commute: the scenarios. -/
import Derived.Test.YthhohbidjhcjeaaDoorTCs
namespace Go.Proofs.YthhohbidjhcjeaaDoor.H
open Go.RowKit Go.Proofs.YthhohbidjhcjeaaDoorW.PrintWords Go.Proofs.YthhohbidjhcjeaaDoorW.PrintLast Go.Proofs.YthhohbidjhcjeaaDoorW.PrintMore
open Go.Proofs.YthhohbidjhcjeaaDoor.Q Go.Proofs.YthhohbidjhcjeaaDoor.Pl
theorem tkV {P : Program} {md : Region.Mode} {ops : Array Oper} {Q : Exit → Act → World → Prop} {oi : Oper} {v : Value} {fuel : Nat} {listed : Array Bool} {a : Act} {w : World} (i : Nat) (N : Option Tmp) (hi : ops[i]? = some oi) (hN : oi.dst = N)
  (hc : (Region.noSelect ops && Region.free md ops listed i && (Region.ready md ops listed).contains i) = true) (hw : Region.wanted oi (yielded ops a.tmps) = true) (hy : ∀ w,(execOp a.eval oi).run P w = .ok (.value v) w)
  (h : wpAnyH P md ops Q (fun _ => True) fuel (listed.setIfInBounds i true) (a.put N v) w) (hQ : ∀ c a w,Q (.panic c) (a.put N v) w → Q (.panic c) a w:=by exact fun _ _ _ h => h) : wpAnyH P md ops Q (fun _ => True) (fuel + 1) listed a w:=by
 subst hN
 simp only [Bool.and_eq_true] at hc
 exact wpAnyH_take hi hc.1.1 hc.1.2 hc.2 hQ (Or.inl ⟨hw,fun w _ => hy w⟩) trivial h
theorem tkS {P : Program} {md : Region.Mode} {ops : Array Oper} {Q : Exit → Act → World → Prop} {oi : Oper} {fuel : Nat} {listed : Array Bool} {a : Act} {w : World} (i : Nat) (N : Option Tmp) (hi : ops[i]? = some oi) (hN : oi.dst = N)
  (hc : (Region.noSelect ops && Region.free md ops listed i && (Region.ready md ops listed).contains i) = true) (hw : Region.wanted oi (yielded ops a.tmps) = false)
  (h : wpAnyH P md ops Q (fun _ => True) fuel (listed.setIfInBounds i true) (a.put N undef) w) (hQ : ∀ c a w,Q (.panic c) (a.put N undef) w → Q (.panic c) a w:=by exact fun _ _ _ h => h) : wpAnyH P md ops Q (fun _ => True) (fuel + 1) listed a w:=by
 subst hN
 simp only [Bool.and_eq_true] at hc
 exact wpAnyH_take hi hc.1.1 hc.1.2 hc.2 hQ (Or.inr ⟨hw,rfl⟩) trivial h
theorem wpAnyH_at {P : Program} {md : Region.Mode} {ops : Array Oper} {Q : Exit → Act → World → Prop} {S : World → Prop} {fuel : Nat} {l l' : Array Bool} {a : Act} {w : World} (h : l = l') (hh : wpAnyH P md ops Q S fuel l' a w) : wpAnyH P md ops Q S fuel l a w:=h ▸ hh
def CmPost (w : World) (a b : S24) (A5 : Option Addr) (c5 : Nat) (A6 : Option Addr) (c6 : Nat) (B5 : Option Addr) (d5 : Nat) (B6 : Option Addr) (d6 : Nat) : Bool → Bool → Bool → Ending → World → Prop
 | true,true,true,e,w' => e = .returned (.tuple #[.agg (cs a B5 d5 B6 d6),.agg (cs b A5 c5 A6 c6),.bool true]) ∧ Below w.heap.size w w'
 | _,_,_,e,w' => e = .returned (.tuple #[.agg zeroC,.agg zeroC,.bool false]) ∧ Below w.heap.size w w'
set_option maxHeartbeats 8000000 in
set_option maxRecDepth 100000 in
theorem comm_np (p q : S24) (A5 : Option Addr) (c5 : Nat) (A6 : Option Addr) (c6 : Nat) (B5 : Option Addr) (d5 : Nat) (B6 : Option Addr) (d6 : Nat) (w : World) (hp : Okp p) (rp : Rd w p A5 c5 A6 c6) (b1 : primB p = false) :
  Calls Tryd.prog 24 #[.agg (cs p A5 c5 A6 c6),.agg (cs q B5 d5 B6 d6)] w fun e w' => e = .returned (.tuple #[.agg zeroC,.agg zeroC,.bool false]) ∧ Below w.heap.size w w':=by
 have RP : ∀ cp cq W,St w cp cq W → Calls Tryd.prog 19 #[.agg (cs p A5 c5 A6 c6)] W fun e W' => e = .returned (.bool false) ∧ St w cp cq W':=fun cp cq W h => by
  have h2:=right_st p A5 c5 A6 c6 w W cp cq hp rp h
  rwa [b1] at h2
 go_enter Tryd.func24,Tryd.ntmps24
 go_wp2
 have hst:=(St.start w (cs p A5 c5 A6 c6) (cs q B5 d5 B6 d6)).drew
 refine wp_region_held_drew (S:=fun _ => True) (by kernel_rfl) trivial (fun _ => ?_)
 apply cutG (S:=St w (cs p A5 c5 A6 c6) (cs q B5 d5 B6 d6))
 ·exact fun tail => tail _ hst
 clear hst
 intro w1 hst
 obtain ⟨pc0,pc1,pc2,pc3,pc4,pc5,pc6⟩:=cells7 hst.p
 refine wpAnyH_ready (rs:=[0]) (by kernel_rfl) (by simp) (AllReadyH.cons rfl (fun K hK => ?_) AllReadyH.nil)
 go_simp
 refine hK.out _ _ trivial (fun _ => ?_)
 clear hK K
 clear pc0 pc1 pc2 pc3 pc4 pc5 pc6
 refine wpAnyH_ready (rs:=[1]) (by kernel_rfl) (by simp) (AllReadyH.cons rfl (fun K hK => ?_) AllReadyH.nil)
 go_simp
 refine (RP _ _ _ hst).mono ?_
 rintro e w1 ⟨rfl,hst⟩
 refine hK.out _ _ trivial (fun _ => ?_)
 clear hK K
 refine tkV (v:=?_) 2 (some 9) rfl rfl (by kernel_rfl) rfl (fun W' => ?_) ?_
 rotate_left
 ·go_simp; (try with_reducible rfl)
 simp only [Act.put,List.setIfInBounds_toArray,List.set_cons_zero,List.set_cons_succ]
 refine tkV (v:=?_) 3 (some 10) rfl rfl (by kernel_rfl) rfl (fun W' => ?_) ?_
 rotate_left
 ·go_simp; (try with_reducible rfl)
 simp only [Act.put,List.setIfInBounds_toArray,List.set_cons_zero,List.set_cons_succ]
 refine tkS 4 (some 11) rfl rfl (by kernel_rfl) rfl ?_
 simp only [Act.put,List.setIfInBounds_toArray,List.set_cons_zero,List.set_cons_succ]
 refine tkS 5 (some 12) rfl rfl (by kernel_rfl) rfl ?_
 simp only [Act.put,List.setIfInBounds_toArray,List.set_cons_zero,List.set_cons_succ]
 refine tkS 6 (some 13) rfl rfl (by kernel_rfl) rfl ?_
 simp only [Act.put,List.setIfInBounds_toArray,List.set_cons_zero,List.set_cons_succ]
 refine tkV (v:=?_) 7 (some 14) rfl rfl (by kernel_rfl) rfl (fun W' => ?_) ?_
 rotate_left
 ·go_simp; (try with_reducible rfl)
 simp only [Act.put,List.setIfInBounds_toArray,List.set_cons_zero,List.set_cons_succ]
 refine tkV (v:=?_) 8 (some 15) rfl rfl (by kernel_rfl) rfl (fun W' => ?_) ?_
 rotate_left
 ·go_simp; (try with_reducible rfl)
 simp only [Act.put,List.setIfInBounds_toArray,List.set_cons_zero,List.set_cons_succ]
 refine tkS 9 (some 16) rfl rfl (by kernel_rfl) rfl ?_
 simp only [Act.put,List.setIfInBounds_toArray,List.set_cons_zero,List.set_cons_succ]
 refine tkS 10 (some 17) rfl rfl (by kernel_rfl) rfl ?_
 simp only [Act.put,List.setIfInBounds_toArray,List.set_cons_zero,List.set_cons_succ]
 refine tkS 11 (some 18) rfl rfl (by kernel_rfl) rfl ?_
 simp only [Act.put,List.setIfInBounds_toArray,List.set_cons_zero,List.set_cons_succ]
 refine tkS 12 (some 19) rfl rfl (by kernel_rfl) rfl ?_
 simp only [Act.put,List.setIfInBounds_toArray,List.set_cons_zero,List.set_cons_succ]
 refine tkS 13 (some 20) rfl rfl (by kernel_rfl) rfl ?_
 simp only [Act.put,List.setIfInBounds_toArray,List.set_cons_zero,List.set_cons_succ]
 refine tkS 14 (some 21) rfl rfl (by kernel_rfl) rfl ?_
 simp only [Act.put,List.setIfInBounds_toArray,List.set_cons_zero,List.set_cons_succ]
 refine tkS 15 (some 22) rfl rfl (by kernel_rfl) rfl ?_
 simp only [Act.put,List.setIfInBounds_toArray,List.set_cons_zero,List.set_cons_succ]
 refine tkS 16 (some 23) rfl rfl (by kernel_rfl) rfl ?_
 simp only [Act.put,List.setIfInBounds_toArray,List.set_cons_zero,List.set_cons_succ]
 refine tkS 17 (some 24) rfl rfl (by kernel_rfl) rfl ?_
 simp only [Act.put,List.setIfInBounds_toArray,List.set_cons_zero,List.set_cons_succ]
 refine tkV (v:=?_) 18 (some 25) rfl rfl (by kernel_rfl) rfl (fun W' => ?_) ?_
 rotate_left
 ·go_simp; (try with_reducible rfl)
 simp only [Act.put,List.setIfInBounds_toArray,List.set_cons_zero,List.set_cons_succ]
 refine tkV (v:=?_) 19 (some 26) rfl rfl (by kernel_rfl) rfl (fun W' => ?_) ?_
 rotate_left
 ·go_simp; (try with_reducible rfl)
 simp only [Act.put,List.setIfInBounds_toArray,List.set_cons_zero,List.set_cons_succ]
 refine tkS 20 (some 27) rfl rfl (by kernel_rfl) rfl ?_
 simp only [Act.put,List.setIfInBounds_toArray,List.set_cons_zero,List.set_cons_succ]
 refine tkS 21 (some 28) rfl rfl (by kernel_rfl) rfl ?_
 simp only [Act.put,List.setIfInBounds_toArray,List.set_cons_zero,List.set_cons_succ]
 refine tkS 22 (some 29) rfl rfl (by kernel_rfl) rfl ?_
 simp only [Act.put,List.setIfInBounds_toArray,List.set_cons_zero,List.set_cons_succ]
 refine tkV (v:=?_) 23 (some 30) rfl rfl (by kernel_rfl) rfl (fun W' => ?_) ?_
 rotate_left
 ·go_simp; (try with_reducible rfl)
 simp only [Act.put,List.setIfInBounds_toArray,List.set_cons_zero,List.set_cons_succ]
 refine tkV (v:=?_) 24 (some 31) rfl rfl (by kernel_rfl) rfl (fun W' => ?_) ?_
 rotate_left
 ·go_simp; (try with_reducible rfl)
 simp only [Act.put,List.setIfInBounds_toArray,List.set_cons_zero,List.set_cons_succ]
 refine tkS 25 (some 32) rfl rfl (by kernel_rfl) rfl ?_
 simp only [Act.put,List.setIfInBounds_toArray,List.set_cons_zero,List.set_cons_succ]
 refine tkS 26 (some 33) rfl rfl (by kernel_rfl) rfl ?_
 simp only [Act.put,List.setIfInBounds_toArray,List.set_cons_zero,List.set_cons_succ]
 refine tkS 27 (some 34) rfl rfl (by kernel_rfl) rfl ?_
 simp only [Act.put,List.setIfInBounds_toArray,List.set_cons_zero,List.set_cons_succ]
 refine tkV (v:=?_) 28 (some 35) rfl rfl (by kernel_rfl) rfl (fun W' => ?_) ?_
 rotate_left
 ·go_simp; (try with_reducible rfl)
 simp only [Act.put,List.setIfInBounds_toArray,List.set_cons_zero,List.set_cons_succ]
 refine wpAnyH_done (by kernel_rfl) ?_ _
 obtain ⟨xc0,xc1,xc2,xc3,xc4,xc5,xc6⟩:=cells7 hst.x
 obtain ⟨yc0,yc1,yc2,yc3,yc4,yc5,yc6⟩:=cells7 hst.y
 obtain ⟨pf0,pf1,pf2,pf3,pf4,pf5,pf6⟩:=frozen7 hst.p
 obtain ⟨qf0,qf1,qf2,qf3,qf4,qf5,qf6⟩:=frozen7 hst.q
 obtain ⟨xf0,xf1,xf2,xf3,xf4,xf5,xf6⟩:=frozen7 hst.x
 obtain ⟨yf0,yf1,yf2,yf3,yf4,yf5,yf6⟩:=frozen7 hst.y
 clear RP
 go_wp2
 all_goals
  refine bodyPost_ret (ret24 (gx:=w.heap.size + 1 + 1) (gy:=w.heap.size + 1 + 1 + 1) rfl rfl rfl ?_ ?_) rfl ⟨rfl,?_⟩
  ·exact ((keep7 (by omega) _ _ _ _ _ _ _).trans (set7 hst.x rfl _ _ _ _ _ _ _))
  ·exact (set7 ((keep7 (by omega) _ _ _ _ _ _ _).trans hst.y) rfl _ _ _ _ _ _ _)
  ·exact (below7 (below7 hst.below (by omega) _ _ _ _ _ _ _) (by omega) _ _ _ _ _ _ _)
set_option maxHeartbeats 8000000 in
set_option maxRecDepth 100000 in
theorem comm_nq (p q : S24) (A5 : Option Addr) (c5 : Nat) (A6 : Option Addr) (c6 : Nat) (B5 : Option Addr) (d5 : Nat) (B6 : Option Addr) (d6 : Nat) (w : World) (hp : Okp p) (rp : Rd w p A5 c5 A6 c6) (b1 : primB p = true) (hq : Okp q) (rq : Rd w q B5 d5 B6 d6) (b2 : primB q = false) :
  Calls Tryd.prog 24 #[.agg (cs p A5 c5 A6 c6),.agg (cs q B5 d5 B6 d6)] w fun e w' => e = .returned (.tuple #[.agg zeroC,.agg zeroC,.bool false]) ∧ Below w.heap.size w w':=by
 have RP : ∀ cp cq W,St w cp cq W → Calls Tryd.prog 19 #[.agg (cs p A5 c5 A6 c6)] W fun e W' => e = .returned (.bool true) ∧ St w cp cq W':=fun cp cq W h => by
  have h2:=right_st p A5 c5 A6 c6 w W cp cq hp rp h
  rwa [b1] at h2
 have RQ : ∀ cp cq W,St w cp cq W → Calls Tryd.prog 19 #[.agg (cs q B5 d5 B6 d6)] W fun e W' => e = .returned (.bool false) ∧ St w cp cq W':=fun cp cq W h => by
  have h2:=right_st q B5 d5 B6 d6 w W cp cq hq rq h
  rwa [b2] at h2
 go_enter Tryd.func24,Tryd.ntmps24
 go_wp2
 have hst:=(St.start w (cs p A5 c5 A6 c6) (cs q B5 d5 B6 d6)).drew
 refine wp_region_held_drew (S:=fun _ => True) (by kernel_rfl) trivial (fun _ => ?_)
 apply cutG (S:=St w (cs p A5 c5 A6 c6) (cs q B5 d5 B6 d6))
 ·exact fun tail => tail _ hst
 clear hst
 intro w1 hst
 obtain ⟨pc0,pc1,pc2,pc3,pc4,pc5,pc6⟩:=cells7 hst.p
 refine wpAnyH_ready (rs:=[0]) (by kernel_rfl) (by simp) (AllReadyH.cons rfl (fun K hK => ?_) AllReadyH.nil)
 go_simp
 refine hK.out _ _ trivial (fun _ => ?_)
 clear hK K
 clear pc0 pc1 pc2 pc3 pc4 pc5 pc6
 refine wpAnyH_ready (rs:=[1]) (by kernel_rfl) (by simp) (AllReadyH.cons rfl (fun K hK => ?_) AllReadyH.nil)
 go_simp
 refine (RP _ _ _ hst).mono ?_
 rintro e w1 ⟨rfl,hst⟩
 refine hK.out _ _ trivial (fun _ => ?_)
 clear hK K
 refine tkV (v:=?_) 2 (some 9) rfl rfl (by kernel_rfl) rfl (fun W' => ?_) ?_
 rotate_left
 ·go_simp; (try with_reducible rfl)
 simp only [Act.put,List.setIfInBounds_toArray,List.set_cons_zero,List.set_cons_succ]
 refine tkV (v:=?_) 3 (some 10) rfl rfl (by kernel_rfl) rfl (fun W' => ?_) ?_
 rotate_left
 ·go_simp; (try with_reducible rfl)
 simp only [Act.put,List.setIfInBounds_toArray,List.set_cons_zero,List.set_cons_succ]
 obtain ⟨qc0,qc1,qc2,qc3,qc4,qc5,qc6⟩:=cells7 hst.q
 refine wpAnyH_ready (rs:=[4]) (by kernel_rfl) (by simp) (AllReadyH.cons rfl (fun K hK => ?_) AllReadyH.nil)
 go_simp
 refine hK.out _ _ trivial (fun _ => ?_)
 clear hK K
 clear qc0 qc1 qc2 qc3 qc4 qc5 qc6
 refine wpAnyH_ready (rs:=[5]) (by kernel_rfl) (by simp) (AllReadyH.cons rfl (fun K hK => ?_) AllReadyH.nil)
 go_simp
 refine (RQ _ _ _ hst).mono ?_
 rintro e w1 ⟨rfl,hst⟩
 refine hK.out _ _ trivial (fun _ => ?_)
 clear hK K
 refine tkV (v:=?_) 6 (some 13) rfl rfl (by kernel_rfl) rfl (fun W' => ?_) ?_
 rotate_left
 ·go_simp; (try with_reducible rfl)
 simp only [Act.put,List.setIfInBounds_toArray,List.set_cons_zero,List.set_cons_succ]
 refine tkV (v:=?_) 7 (some 14) rfl rfl (by kernel_rfl) rfl (fun W' => ?_) ?_
 rotate_left
 ·go_simp; (try with_reducible rfl)
 simp only [Act.put,List.setIfInBounds_toArray,List.set_cons_zero,List.set_cons_succ]
 refine tkV (v:=?_) 8 (some 15) rfl rfl (by kernel_rfl) rfl (fun W' => ?_) ?_
 rotate_left
 ·go_simp; (try with_reducible rfl)
 simp only [Act.put,List.setIfInBounds_toArray,List.set_cons_zero,List.set_cons_succ]
 refine tkS 9 (some 16) rfl rfl (by kernel_rfl) rfl ?_
 simp only [Act.put,List.setIfInBounds_toArray,List.set_cons_zero,List.set_cons_succ]
 refine tkS 10 (some 17) rfl rfl (by kernel_rfl) rfl ?_
 simp only [Act.put,List.setIfInBounds_toArray,List.set_cons_zero,List.set_cons_succ]
 refine tkS 11 (some 18) rfl rfl (by kernel_rfl) rfl ?_
 simp only [Act.put,List.setIfInBounds_toArray,List.set_cons_zero,List.set_cons_succ]
 refine tkS 12 (some 19) rfl rfl (by kernel_rfl) rfl ?_
 simp only [Act.put,List.setIfInBounds_toArray,List.set_cons_zero,List.set_cons_succ]
 refine tkS 13 (some 20) rfl rfl (by kernel_rfl) rfl ?_
 simp only [Act.put,List.setIfInBounds_toArray,List.set_cons_zero,List.set_cons_succ]
 refine tkS 14 (some 21) rfl rfl (by kernel_rfl) rfl ?_
 simp only [Act.put,List.setIfInBounds_toArray,List.set_cons_zero,List.set_cons_succ]
 refine tkS 15 (some 22) rfl rfl (by kernel_rfl) rfl ?_
 simp only [Act.put,List.setIfInBounds_toArray,List.set_cons_zero,List.set_cons_succ]
 refine tkS 16 (some 23) rfl rfl (by kernel_rfl) rfl ?_
 simp only [Act.put,List.setIfInBounds_toArray,List.set_cons_zero,List.set_cons_succ]
 refine tkS 17 (some 24) rfl rfl (by kernel_rfl) rfl ?_
 simp only [Act.put,List.setIfInBounds_toArray,List.set_cons_zero,List.set_cons_succ]
 refine tkV (v:=?_) 18 (some 25) rfl rfl (by kernel_rfl) rfl (fun W' => ?_) ?_
 rotate_left
 ·go_simp; (try with_reducible rfl)
 simp only [Act.put,List.setIfInBounds_toArray,List.set_cons_zero,List.set_cons_succ]
 refine tkV (v:=?_) 19 (some 26) rfl rfl (by kernel_rfl) rfl (fun W' => ?_) ?_
 rotate_left
 ·go_simp; (try with_reducible rfl)
 simp only [Act.put,List.setIfInBounds_toArray,List.set_cons_zero,List.set_cons_succ]
 refine tkS 20 (some 27) rfl rfl (by kernel_rfl) rfl ?_
 simp only [Act.put,List.setIfInBounds_toArray,List.set_cons_zero,List.set_cons_succ]
 refine tkS 21 (some 28) rfl rfl (by kernel_rfl) rfl ?_
 simp only [Act.put,List.setIfInBounds_toArray,List.set_cons_zero,List.set_cons_succ]
 refine tkS 22 (some 29) rfl rfl (by kernel_rfl) rfl ?_
 simp only [Act.put,List.setIfInBounds_toArray,List.set_cons_zero,List.set_cons_succ]
 refine tkV (v:=?_) 23 (some 30) rfl rfl (by kernel_rfl) rfl (fun W' => ?_) ?_
 rotate_left
 ·go_simp; (try with_reducible rfl)
 simp only [Act.put,List.setIfInBounds_toArray,List.set_cons_zero,List.set_cons_succ]
 refine tkV (v:=?_) 24 (some 31) rfl rfl (by kernel_rfl) rfl (fun W' => ?_) ?_
 rotate_left
 ·go_simp; (try with_reducible rfl)
 simp only [Act.put,List.setIfInBounds_toArray,List.set_cons_zero,List.set_cons_succ]
 refine tkS 25 (some 32) rfl rfl (by kernel_rfl) rfl ?_
 simp only [Act.put,List.setIfInBounds_toArray,List.set_cons_zero,List.set_cons_succ]
 refine tkS 26 (some 33) rfl rfl (by kernel_rfl) rfl ?_
 simp only [Act.put,List.setIfInBounds_toArray,List.set_cons_zero,List.set_cons_succ]
 refine tkS 27 (some 34) rfl rfl (by kernel_rfl) rfl ?_
 simp only [Act.put,List.setIfInBounds_toArray,List.set_cons_zero,List.set_cons_succ]
 refine tkV (v:=?_) 28 (some 35) rfl rfl (by kernel_rfl) rfl (fun W' => ?_) ?_
 rotate_left
 ·go_simp; (try with_reducible rfl)
 simp only [Act.put,List.setIfInBounds_toArray,List.set_cons_zero,List.set_cons_succ]
 refine wpAnyH_done (by kernel_rfl) ?_ _
 obtain ⟨xc0,xc1,xc2,xc3,xc4,xc5,xc6⟩:=cells7 hst.x
 obtain ⟨yc0,yc1,yc2,yc3,yc4,yc5,yc6⟩:=cells7 hst.y
 obtain ⟨pf0,pf1,pf2,pf3,pf4,pf5,pf6⟩:=frozen7 hst.p
 obtain ⟨qf0,qf1,qf2,qf3,qf4,qf5,qf6⟩:=frozen7 hst.q
 obtain ⟨xf0,xf1,xf2,xf3,xf4,xf5,xf6⟩:=frozen7 hst.x
 obtain ⟨yf0,yf1,yf2,yf3,yf4,yf5,yf6⟩:=frozen7 hst.y
 clear RP RQ
 go_wp2
 all_goals
  refine bodyPost_ret (ret24 (gx:=w.heap.size + 1 + 1) (gy:=w.heap.size + 1 + 1 + 1) rfl rfl rfl ?_ ?_) rfl ⟨rfl,?_⟩
  ·exact ((keep7 (by omega) _ _ _ _ _ _ _).trans (set7 hst.x rfl _ _ _ _ _ _ _))
  ·exact (set7 ((keep7 (by omega) _ _ _ _ _ _ _).trans hst.y) rfl _ _ _ _ _ _ _)
  ·exact (below7 (below7 hst.below (by omega) _ _ _ _ _ _ _) (by omega) _ _ _ _ _ _ _)
set_option maxHeartbeats 8000000 in
set_option maxRecDepth 100000 in
theorem comm_in (p q p2 q2 : S24) (A5 : Option Addr) (c5 : Nat) (A6 : Option Addr) (c6 : Nat) (B5 : Option Addr) (d5 : Nat) (B6 : Option Addr) (d6 : Nat) (w : World) (r x3 x4 : Bool) (hp : Okp p) (rp : Rd w p A5 c5 A6 c6) (b1 : primB p = true) (hq : Okp q) (rq : Rd w q B5 d5 B6 d6) (b2 : primB q = true) (hp2 : Okp p2) (rp2 : Rd w p2 A5 c5 A6 c6) (b3 : primB p2 = x3) (hq2 : Okp q2) (rq2 : Rd w q2 B5 d5 B6 d6) (b4 : primB q2 = x4) (n : Nat) (en : ∀ args w,(callFunc n args).run Tryd.prog w = .ok (.enter n args) w) (row : Array Value) (h70 : ∀ W,(Instr.index 70 (.agg rulesV) (.int .i64 (classS p))).run Tryd.prog W = .ok (.agg row) W) (h69 : ∀ W,(Instr.index 69 (.agg row) (.int .i64 (classS q))).run Tryd.prog W = .ok (.func (.func n) #[] #[]) W)
  (hrule : ∀ W,St w (cs p A5 c5 A6 c6) (cs q B5 d5 B6 d6) W → Calls Tryd.prog n #[.pointer (some ⟨w.heap.size,0,none⟩),.pointer (some ⟨w.heap.size + 1,0,none⟩)] W fun e W' => e = .returned (.bool r) ∧ St w (cs p2 A5 c5 A6 c6) (cs q2 B5 d5 B6 d6) W') :
  Calls Tryd.prog 24 #[.agg (cs p A5 c5 A6 c6),.agg (cs q B5 d5 B6 d6)] w fun e w' => CmPost w q2 p2 A5 c5 A6 c6 B5 d5 B6 d6 r x3 x4 e w':=by
 have RP : ∀ cp cq W,St w cp cq W → Calls Tryd.prog 19 #[.agg (cs p A5 c5 A6 c6)] W fun e W' => e = .returned (.bool true) ∧ St w cp cq W':=fun cp cq W h => by
  have h2:=right_st p A5 c5 A6 c6 w W cp cq hp rp h
  rwa [b1] at h2
 have RQ : ∀ cp cq W,St w cp cq W → Calls Tryd.prog 19 #[.agg (cs q B5 d5 B6 d6)] W fun e W' => e = .returned (.bool true) ∧ St w cp cq W':=fun cp cq W h => by
  have h2:=right_st q B5 d5 B6 d6 w W cp cq hq rq h
  rwa [b2] at h2
 have RP2 : ∀ cp cq W,St w cp cq W → Calls Tryd.prog 19 #[.agg (cs p2 A5 c5 A6 c6)] W fun e W' => e = .returned (.bool x3) ∧ St w cp cq W':=fun cp cq W h => by
  have h2:=right_st p2 A5 c5 A6 c6 w W cp cq hp2 rp2 h
  rwa [b3] at h2
 have RQ2 : ∀ cp cq W,St w cp cq W → Calls Tryd.prog 19 #[.agg (cs q2 B5 d5 B6 d6)] W fun e W' => e = .returned (.bool x4) ∧ St w cp cq W':=fun cp cq W h => by
  have h2:=right_st q2 B5 d5 B6 d6 w W cp cq hq2 rq2 h
  rwa [b4] at h2
 go_enter Tryd.func24,Tryd.ntmps24
 go_wp2
 have hst:=(St.start w (cs p A5 c5 A6 c6) (cs q B5 d5 B6 d6)).drew
 refine wp_region_held_drew (S:=fun _ => True) (by kernel_rfl) trivial (fun _ => ?_)
 apply cutG (S:=St w (cs p A5 c5 A6 c6) (cs q B5 d5 B6 d6))
 ·exact fun tail => tail _ hst
 clear hst
 intro w1 hst
 apply cutG (S:=St w (cs p A5 c5 A6 c6) (cs q B5 d5 B6 d6))
 ·intro tail
  obtain ⟨pc0,pc1,pc2,pc3,pc4,pc5,pc6⟩:=cells7 hst.p
  refine wpAnyH_ready (rs:=[0]) (by kernel_rfl) (by simp) (AllReadyH.cons rfl (fun K hK => ?_) AllReadyH.nil)
  go_simp
  refine hK.out _ _ trivial (fun _ => ?_)
  clear hK K
  clear pc0 pc1 pc2 pc3 pc4 pc5 pc6
  refine wpAnyH_ready (rs:=[1]) (by kernel_rfl) (by simp) (AllReadyH.cons rfl (fun K hK => ?_) AllReadyH.nil)
  go_simp
  refine (RP _ _ _ hst).mono ?_
  rintro e w1 ⟨rfl,hst⟩
  refine hK.out _ _ trivial (fun _ => ?_)
  clear hK K
  refine tkV (v:=?_) 2 (some 9) rfl rfl (by kernel_rfl) rfl (fun W' => ?_) ?_
  rotate_left
  ·go_simp; (try with_reducible rfl)
  simp only [Act.put,List.setIfInBounds_toArray,List.set_cons_zero,List.set_cons_succ]
  refine tkV (v:=?_) 3 (some 10) rfl rfl (by kernel_rfl) rfl (fun W' => ?_) ?_
  rotate_left
  ·go_simp; (try with_reducible rfl)
  simp only [Act.put,List.setIfInBounds_toArray,List.set_cons_zero,List.set_cons_succ]
  obtain ⟨qc0,qc1,qc2,qc3,qc4,qc5,qc6⟩:=cells7 hst.q
  refine wpAnyH_ready (rs:=[4]) (by kernel_rfl) (by simp) (AllReadyH.cons rfl (fun K hK => ?_) AllReadyH.nil)
  go_simp
  refine hK.out _ _ trivial (fun _ => ?_)
  clear hK K
  clear qc0 qc1 qc2 qc3 qc4 qc5 qc6
  refine wpAnyH_ready (rs:=[5]) (by kernel_rfl) (by simp) (AllReadyH.cons rfl (fun K hK => ?_) AllReadyH.nil)
  go_simp
  refine (RQ _ _ _ hst).mono ?_
  rintro e w1 ⟨rfl,hst⟩
  refine hK.out _ _ trivial (fun _ => ?_)
  clear hK K
  refine tkV (v:=?_) 6 (some 13) rfl rfl (by kernel_rfl) rfl (fun W' => ?_) ?_
  rotate_left
  ·go_simp; (try with_reducible rfl)
  simp only [Act.put,List.setIfInBounds_toArray,List.set_cons_zero,List.set_cons_succ]
  refine tkV (v:=?_) 7 (some 14) rfl rfl (by kernel_rfl) rfl (fun W' => ?_) ?_
  rotate_left
  ·go_simp; (try with_reducible rfl)
  simp only [Act.put,List.setIfInBounds_toArray,List.set_cons_zero,List.set_cons_succ]
  refine tkV (v:=?_) 8 (some 15) rfl rfl (by kernel_rfl) rfl (fun W' => ?_) ?_
  rotate_left
  ·go_simp; (try with_reducible rfl)
  simp only [Act.put,List.setIfInBounds_toArray,List.set_cons_zero,List.set_cons_succ]
  obtain ⟨pc0,pc1,pc2,pc3,pc4,pc5,pc6⟩:=cells7 hst.p
  obtain ⟨qc0,qc1,qc2,qc3,qc4,qc5,qc6⟩:=cells7 hst.q
  refine wpAnyH_ready (rs:=[9,10,13]) (by kernel_rfl) (by simp) (AllReadyH.cons rfl (fun K hK => ?_) (AllReadyH.cons rfl (fun K hK => ?_) (AllReadyH.cons rfl (fun K hK => ?_) AllReadyH.nil)))
  ·skip
   go_simp
   refine (rules_st w _ _ _ hst).mono ?_
   rintro e w1 ⟨rfl,hst⟩
   refine hK.out _ _ trivial (fun _ => ?_)
   clear hK K
   clear pc0 pc1 pc2 pc3 pc4 pc5 pc6 qc0 qc1 qc2 qc3 qc4 qc5 qc6
   obtain ⟨pc0,pc1,pc2,pc3,pc4,pc5,pc6⟩:=cells7 hst.p
   obtain ⟨qc0,qc1,qc2,qc3,qc4,qc5,qc6⟩:=cells7 hst.q
   refine wpAnyH_ready (rs:=[10,13]) (by kernel_rfl) (by simp) (AllReadyH.cons rfl (fun K hK => ?_) (AllReadyH.cons rfl (fun K hK => ?_) AllReadyH.nil))
   ·skip
    go_simp
    refine hK.out _ _ trivial (fun _ => ?_)
    clear hK K
    clear pc0 pc1 pc2 pc3 pc4 pc5 pc6 qc0 qc1 qc2 qc3 qc4 qc5 qc6
    obtain ⟨qc0,qc1,qc2,qc3,qc4,qc5,qc6⟩:=cells7 hst.q
    refine wpAnyH_ready (rs:=[11,13]) (by kernel_rfl) (by simp) (AllReadyH.cons rfl (fun K hK => ?_) (AllReadyH.cons rfl (fun K hK => ?_) AllReadyH.nil))
    ·skip
     go_simp
     refine (class_st p A5 c5 A6 c6 w _ _ _ rp hst).mono ?_
     rintro e w1 ⟨rfl,hst⟩
     refine hK.out _ _ trivial (fun _ => ?_)
     clear hK K
     clear qc0 qc1 qc2 qc3 qc4 qc5 qc6
     refine tkV (v:=?_) 12 (some 19) rfl rfl (by kernel_rfl) rfl (fun W' => ?_) ?_
     rotate_left
     ·go_simp; (try with_reducible rfl)
     simp only [Act.put,List.setIfInBounds_toArray,List.set_cons_zero,List.set_cons_succ]
     obtain ⟨qc0,qc1,qc2,qc3,qc4,qc5,qc6⟩:=cells7 hst.q
     refine wpAnyH_ready (rs:=[13]) (by kernel_rfl) (by simp) (AllReadyH.cons rfl (fun K hK => ?_) AllReadyH.nil)
     go_simp
     refine hK.out _ _ trivial (fun _ => ?_)
     clear hK K
     clear qc0 qc1 qc2 qc3 qc4 qc5 qc6
     refine wpAnyH_ready (rs:=[14]) (by kernel_rfl) (by simp) (AllReadyH.cons rfl (fun K hK => ?_) AllReadyH.nil)
     go_simp
     refine (class_st q B5 d5 B6 d6 w _ _ _ rq hst).mono ?_
     rintro e w1 ⟨rfl,hst⟩
     refine hK.out _ _ trivial (fun _ => ?_)
     clear hK K
     refine tkV (v:=?_) 15 (some 22) rfl rfl (by kernel_rfl) rfl (fun W' => ?_) ?_
     rotate_left
     ·go_simp; (try with_reducible rfl)
     simp only [Act.put,List.setIfInBounds_toArray,List.set_cons_zero,List.set_cons_succ]
     exact wpAnyH_at (l':=#[true,true,true,true,true,true,true,true,true,true,true,true,true,true,true,true,false,false,false,false,false,false,false,false,false,false,false,false,false]) (by kernel_rfl) (tail _ hst)
    ·skip
     go_simp
     refine hK.out _ _ trivial (fun _ => ?_)
     clear hK K
     clear qc0 qc1 qc2 qc3 qc4 qc5 qc6
     refine wpAnyH_ready (rs:=[11]) (by kernel_rfl) (by simp) (AllReadyH.cons rfl (fun K hK => ?_) AllReadyH.nil)
     go_simp
     refine (class_st p A5 c5 A6 c6 w _ _ _ rp hst).mono ?_
     rintro e w1 ⟨rfl,hst⟩
     refine hK.out _ _ trivial (fun _ => ?_)
     clear hK K
     refine tkV (v:=?_) 12 (some 19) rfl rfl (by kernel_rfl) rfl (fun W' => ?_) ?_
     rotate_left
     ·go_simp; (try with_reducible rfl)
     simp only [Act.put,List.setIfInBounds_toArray,List.set_cons_zero,List.set_cons_succ]
     refine wpAnyH_ready (rs:=[14]) (by kernel_rfl) (by simp) (AllReadyH.cons rfl (fun K hK => ?_) AllReadyH.nil)
     go_simp
     refine (class_st q B5 d5 B6 d6 w _ _ _ rq hst).mono ?_
     rintro e w1 ⟨rfl,hst⟩
     refine hK.out _ _ trivial (fun _ => ?_)
     clear hK K
     refine tkV (v:=?_) 15 (some 22) rfl rfl (by kernel_rfl) rfl (fun W' => ?_) ?_
     rotate_left
     ·go_simp; (try with_reducible rfl)
     simp only [Act.put,List.setIfInBounds_toArray,List.set_cons_zero,List.set_cons_succ]
     exact wpAnyH_at (l':=#[true,true,true,true,true,true,true,true,true,true,true,true,true,true,true,true,false,false,false,false,false,false,false,false,false,false,false,false,false]) (by kernel_rfl) (tail _ hst)
   ·skip
    go_simp
    refine hK.out _ _ trivial (fun _ => ?_)
    clear hK K
    clear pc0 pc1 pc2 pc3 pc4 pc5 pc6 qc0 qc1 qc2 qc3 qc4 qc5 qc6
    obtain ⟨pc0,pc1,pc2,pc3,pc4,pc5,pc6⟩:=cells7 hst.p
    refine wpAnyH_ready (rs:=[10]) (by kernel_rfl) (by simp) (AllReadyH.cons rfl (fun K hK => ?_) AllReadyH.nil)
    go_simp
    refine hK.out _ _ trivial (fun _ => ?_)
    clear hK K
    clear pc0 pc1 pc2 pc3 pc4 pc5 pc6
    refine wpAnyH_ready (rs:=[11]) (by kernel_rfl) (by simp) (AllReadyH.cons rfl (fun K hK => ?_) AllReadyH.nil)
    go_simp
    refine (class_st p A5 c5 A6 c6 w _ _ _ rp hst).mono ?_
    rintro e w1 ⟨rfl,hst⟩
    refine hK.out _ _ trivial (fun _ => ?_)
    clear hK K
    refine tkV (v:=?_) 12 (some 19) rfl rfl (by kernel_rfl) rfl (fun W' => ?_) ?_
    rotate_left
    ·go_simp; (try with_reducible rfl)
    simp only [Act.put,List.setIfInBounds_toArray,List.set_cons_zero,List.set_cons_succ]
    refine wpAnyH_ready (rs:=[14]) (by kernel_rfl) (by simp) (AllReadyH.cons rfl (fun K hK => ?_) AllReadyH.nil)
    go_simp
    refine (class_st q B5 d5 B6 d6 w _ _ _ rq hst).mono ?_
    rintro e w1 ⟨rfl,hst⟩
    refine hK.out _ _ trivial (fun _ => ?_)
    clear hK K
    refine tkV (v:=?_) 15 (some 22) rfl rfl (by kernel_rfl) rfl (fun W' => ?_) ?_
    rotate_left
    ·go_simp; (try with_reducible rfl)
    simp only [Act.put,List.setIfInBounds_toArray,List.set_cons_zero,List.set_cons_succ]
    exact wpAnyH_at (l':=#[true,true,true,true,true,true,true,true,true,true,true,true,true,true,true,true,false,false,false,false,false,false,false,false,false,false,false,false,false]) (by kernel_rfl) (tail _ hst)
  ·skip
   go_simp
   refine hK.out _ _ trivial (fun _ => ?_)
   clear hK K
   clear pc0 pc1 pc2 pc3 pc4 pc5 pc6 qc0 qc1 qc2 qc3 qc4 qc5 qc6
   obtain ⟨qc0,qc1,qc2,qc3,qc4,qc5,qc6⟩:=cells7 hst.q
   refine wpAnyH_ready (rs:=[9,13]) (by kernel_rfl) (by simp) (AllReadyH.cons rfl (fun K hK => ?_) (AllReadyH.cons rfl (fun K hK => ?_) AllReadyH.nil))
   ·skip
    go_simp
    refine (rules_st w _ _ _ hst).mono ?_
    rintro e w1 ⟨rfl,hst⟩
    refine hK.out _ _ trivial (fun _ => ?_)
    clear hK K
    clear qc0 qc1 qc2 qc3 qc4 qc5 qc6
    obtain ⟨qc0,qc1,qc2,qc3,qc4,qc5,qc6⟩:=cells7 hst.q
    refine wpAnyH_ready (rs:=[11,13]) (by kernel_rfl) (by simp) (AllReadyH.cons rfl (fun K hK => ?_) (AllReadyH.cons rfl (fun K hK => ?_) AllReadyH.nil))
    ·skip
     go_simp
     refine (class_st p A5 c5 A6 c6 w _ _ _ rp hst).mono ?_
     rintro e w1 ⟨rfl,hst⟩
     refine hK.out _ _ trivial (fun _ => ?_)
     clear hK K
     clear qc0 qc1 qc2 qc3 qc4 qc5 qc6
     refine tkV (v:=?_) 12 (some 19) rfl rfl (by kernel_rfl) rfl (fun W' => ?_) ?_
     rotate_left
     ·go_simp; (try with_reducible rfl)
     simp only [Act.put,List.setIfInBounds_toArray,List.set_cons_zero,List.set_cons_succ]
     obtain ⟨qc0,qc1,qc2,qc3,qc4,qc5,qc6⟩:=cells7 hst.q
     refine wpAnyH_ready (rs:=[13]) (by kernel_rfl) (by simp) (AllReadyH.cons rfl (fun K hK => ?_) AllReadyH.nil)
     go_simp
     refine hK.out _ _ trivial (fun _ => ?_)
     clear hK K
     clear qc0 qc1 qc2 qc3 qc4 qc5 qc6
     refine wpAnyH_ready (rs:=[14]) (by kernel_rfl) (by simp) (AllReadyH.cons rfl (fun K hK => ?_) AllReadyH.nil)
     go_simp
     refine (class_st q B5 d5 B6 d6 w _ _ _ rq hst).mono ?_
     rintro e w1 ⟨rfl,hst⟩
     refine hK.out _ _ trivial (fun _ => ?_)
     clear hK K
     refine tkV (v:=?_) 15 (some 22) rfl rfl (by kernel_rfl) rfl (fun W' => ?_) ?_
     rotate_left
     ·go_simp; (try with_reducible rfl)
     simp only [Act.put,List.setIfInBounds_toArray,List.set_cons_zero,List.set_cons_succ]
     exact wpAnyH_at (l':=#[true,true,true,true,true,true,true,true,true,true,true,true,true,true,true,true,false,false,false,false,false,false,false,false,false,false,false,false,false]) (by kernel_rfl) (tail _ hst)
    ·skip
     go_simp
     refine hK.out _ _ trivial (fun _ => ?_)
     clear hK K
     clear qc0 qc1 qc2 qc3 qc4 qc5 qc6
     refine wpAnyH_ready (rs:=[11]) (by kernel_rfl) (by simp) (AllReadyH.cons rfl (fun K hK => ?_) AllReadyH.nil)
     go_simp
     refine (class_st p A5 c5 A6 c6 w _ _ _ rp hst).mono ?_
     rintro e w1 ⟨rfl,hst⟩
     refine hK.out _ _ trivial (fun _ => ?_)
     clear hK K
     refine tkV (v:=?_) 12 (some 19) rfl rfl (by kernel_rfl) rfl (fun W' => ?_) ?_
     rotate_left
     ·go_simp; (try with_reducible rfl)
     simp only [Act.put,List.setIfInBounds_toArray,List.set_cons_zero,List.set_cons_succ]
     refine wpAnyH_ready (rs:=[14]) (by kernel_rfl) (by simp) (AllReadyH.cons rfl (fun K hK => ?_) AllReadyH.nil)
     go_simp
     refine (class_st q B5 d5 B6 d6 w _ _ _ rq hst).mono ?_
     rintro e w1 ⟨rfl,hst⟩
     refine hK.out _ _ trivial (fun _ => ?_)
     clear hK K
     refine tkV (v:=?_) 15 (some 22) rfl rfl (by kernel_rfl) rfl (fun W' => ?_) ?_
     rotate_left
     ·go_simp; (try with_reducible rfl)
     simp only [Act.put,List.setIfInBounds_toArray,List.set_cons_zero,List.set_cons_succ]
     exact wpAnyH_at (l':=#[true,true,true,true,true,true,true,true,true,true,true,true,true,true,true,true,false,false,false,false,false,false,false,false,false,false,false,false,false]) (by kernel_rfl) (tail _ hst)
   ·skip
    go_simp
    refine hK.out _ _ trivial (fun _ => ?_)
    clear hK K
    clear qc0 qc1 qc2 qc3 qc4 qc5 qc6
    refine wpAnyH_ready (rs:=[9]) (by kernel_rfl) (by simp) (AllReadyH.cons rfl (fun K hK => ?_) AllReadyH.nil)
    go_simp
    refine (rules_st w _ _ _ hst).mono ?_
    rintro e w1 ⟨rfl,hst⟩
    refine hK.out _ _ trivial (fun _ => ?_)
    clear hK K
    refine wpAnyH_ready (rs:=[11]) (by kernel_rfl) (by simp) (AllReadyH.cons rfl (fun K hK => ?_) AllReadyH.nil)
    go_simp
    refine (class_st p A5 c5 A6 c6 w _ _ _ rp hst).mono ?_
    rintro e w1 ⟨rfl,hst⟩
    refine hK.out _ _ trivial (fun _ => ?_)
    clear hK K
    refine tkV (v:=?_) 12 (some 19) rfl rfl (by kernel_rfl) rfl (fun W' => ?_) ?_
    rotate_left
    ·go_simp; (try with_reducible rfl)
    simp only [Act.put,List.setIfInBounds_toArray,List.set_cons_zero,List.set_cons_succ]
    refine wpAnyH_ready (rs:=[14]) (by kernel_rfl) (by simp) (AllReadyH.cons rfl (fun K hK => ?_) AllReadyH.nil)
    go_simp
    refine (class_st q B5 d5 B6 d6 w _ _ _ rq hst).mono ?_
    rintro e w1 ⟨rfl,hst⟩
    refine hK.out _ _ trivial (fun _ => ?_)
    clear hK K
    refine tkV (v:=?_) 15 (some 22) rfl rfl (by kernel_rfl) rfl (fun W' => ?_) ?_
    rotate_left
    ·go_simp; (try with_reducible rfl)
    simp only [Act.put,List.setIfInBounds_toArray,List.set_cons_zero,List.set_cons_succ]
    exact wpAnyH_at (l':=#[true,true,true,true,true,true,true,true,true,true,true,true,true,true,true,true,false,false,false,false,false,false,false,false,false,false,false,false,false]) (by kernel_rfl) (tail _ hst)
  ·skip
   go_simp
   refine hK.out _ _ trivial (fun _ => ?_)
   clear hK K
   clear pc0 pc1 pc2 pc3 pc4 pc5 pc6 qc0 qc1 qc2 qc3 qc4 qc5 qc6
   obtain ⟨pc0,pc1,pc2,pc3,pc4,pc5,pc6⟩:=cells7 hst.p
   refine wpAnyH_ready (rs:=[9,10]) (by kernel_rfl) (by simp) (AllReadyH.cons rfl (fun K hK => ?_) (AllReadyH.cons rfl (fun K hK => ?_) AllReadyH.nil))
   ·skip
    go_simp
    refine (rules_st w _ _ _ hst).mono ?_
    rintro e w1 ⟨rfl,hst⟩
    refine hK.out _ _ trivial (fun _ => ?_)
    clear hK K
    clear pc0 pc1 pc2 pc3 pc4 pc5 pc6
    obtain ⟨pc0,pc1,pc2,pc3,pc4,pc5,pc6⟩:=cells7 hst.p
    refine wpAnyH_ready (rs:=[10]) (by kernel_rfl) (by simp) (AllReadyH.cons rfl (fun K hK => ?_) AllReadyH.nil)
    go_simp
    refine hK.out _ _ trivial (fun _ => ?_)
    clear hK K
    clear pc0 pc1 pc2 pc3 pc4 pc5 pc6
    refine wpAnyH_ready (rs:=[11]) (by kernel_rfl) (by simp) (AllReadyH.cons rfl (fun K hK => ?_) AllReadyH.nil)
    go_simp
    refine (class_st p A5 c5 A6 c6 w _ _ _ rp hst).mono ?_
    rintro e w1 ⟨rfl,hst⟩
    refine hK.out _ _ trivial (fun _ => ?_)
    clear hK K
    refine tkV (v:=?_) 12 (some 19) rfl rfl (by kernel_rfl) rfl (fun W' => ?_) ?_
    rotate_left
    ·go_simp; (try with_reducible rfl)
    simp only [Act.put,List.setIfInBounds_toArray,List.set_cons_zero,List.set_cons_succ]
    refine wpAnyH_ready (rs:=[14]) (by kernel_rfl) (by simp) (AllReadyH.cons rfl (fun K hK => ?_) AllReadyH.nil)
    go_simp
    refine (class_st q B5 d5 B6 d6 w _ _ _ rq hst).mono ?_
    rintro e w1 ⟨rfl,hst⟩
    refine hK.out _ _ trivial (fun _ => ?_)
    clear hK K
    refine tkV (v:=?_) 15 (some 22) rfl rfl (by kernel_rfl) rfl (fun W' => ?_) ?_
    rotate_left
    ·go_simp; (try with_reducible rfl)
    simp only [Act.put,List.setIfInBounds_toArray,List.set_cons_zero,List.set_cons_succ]
    exact wpAnyH_at (l':=#[true,true,true,true,true,true,true,true,true,true,true,true,true,true,true,true,false,false,false,false,false,false,false,false,false,false,false,false,false]) (by kernel_rfl) (tail _ hst)
   ·skip
    go_simp
    refine hK.out _ _ trivial (fun _ => ?_)
    clear hK K
    clear pc0 pc1 pc2 pc3 pc4 pc5 pc6
    refine wpAnyH_ready (rs:=[9]) (by kernel_rfl) (by simp) (AllReadyH.cons rfl (fun K hK => ?_) AllReadyH.nil)
    go_simp
    refine (rules_st w _ _ _ hst).mono ?_
    rintro e w1 ⟨rfl,hst⟩
    refine hK.out _ _ trivial (fun _ => ?_)
    clear hK K
    refine wpAnyH_ready (rs:=[11]) (by kernel_rfl) (by simp) (AllReadyH.cons rfl (fun K hK => ?_) AllReadyH.nil)
    go_simp
    refine (class_st p A5 c5 A6 c6 w _ _ _ rp hst).mono ?_
    rintro e w1 ⟨rfl,hst⟩
    refine hK.out _ _ trivial (fun _ => ?_)
    clear hK K
    refine tkV (v:=?_) 12 (some 19) rfl rfl (by kernel_rfl) rfl (fun W' => ?_) ?_
    rotate_left
    ·go_simp; (try with_reducible rfl)
    simp only [Act.put,List.setIfInBounds_toArray,List.set_cons_zero,List.set_cons_succ]
    refine wpAnyH_ready (rs:=[14]) (by kernel_rfl) (by simp) (AllReadyH.cons rfl (fun K hK => ?_) AllReadyH.nil)
    go_simp
    refine (class_st q B5 d5 B6 d6 w _ _ _ rq hst).mono ?_
    rintro e w1 ⟨rfl,hst⟩
    refine hK.out _ _ trivial (fun _ => ?_)
    clear hK K
    refine tkV (v:=?_) 15 (some 22) rfl rfl (by kernel_rfl) rfl (fun W' => ?_) ?_
    rotate_left
    ·go_simp; (try with_reducible rfl)
    simp only [Act.put,List.setIfInBounds_toArray,List.set_cons_zero,List.set_cons_succ]
    exact wpAnyH_at (l':=#[true,true,true,true,true,true,true,true,true,true,true,true,true,true,true,true,false,false,false,false,false,false,false,false,false,false,false,false,false]) (by kernel_rfl) (tail _ hst)
 ·clear hst
  intro w1 hst
  refine wpAnyH_ready (rs:=[16]) (by kernel_rfl) (by simp) (AllReadyH.cons rfl (fun K hK => ?_) AllReadyH.nil)
  go_simp
  refine (hrule _ hst).mono ?_
  rintro e w1 ⟨rfl,hst⟩
  refine hK.out _ _ trivial (fun _ => ?_)
  clear hK K
  cases r with
  | false =>
   refine tkV (v:=?_) 17 (some 24) rfl rfl (by kernel_rfl) rfl (fun W' => ?_) ?_
   rotate_left
   ·go_simp; (try with_reducible rfl)
   simp only [Act.put,List.setIfInBounds_toArray,List.set_cons_zero,List.set_cons_succ]
   refine tkV (v:=?_) 18 (some 25) rfl rfl (by kernel_rfl) rfl (fun W' => ?_) ?_
   rotate_left
   ·go_simp; (try with_reducible rfl)
   simp only [Act.put,List.setIfInBounds_toArray,List.set_cons_zero,List.set_cons_succ]
   refine tkV (v:=?_) 19 (some 26) rfl rfl (by kernel_rfl) rfl (fun W' => ?_) ?_
   rotate_left
   ·go_simp; (try with_reducible rfl)
   simp only [Act.put,List.setIfInBounds_toArray,List.set_cons_zero,List.set_cons_succ]
   refine tkS 20 (some 27) rfl rfl (by kernel_rfl) rfl ?_
   simp only [Act.put,List.setIfInBounds_toArray,List.set_cons_zero,List.set_cons_succ]
   refine tkS 21 (some 28) rfl rfl (by kernel_rfl) rfl ?_
   simp only [Act.put,List.setIfInBounds_toArray,List.set_cons_zero,List.set_cons_succ]
   refine tkS 22 (some 29) rfl rfl (by kernel_rfl) rfl ?_
   simp only [Act.put,List.setIfInBounds_toArray,List.set_cons_zero,List.set_cons_succ]
   refine tkV (v:=?_) 23 (some 30) rfl rfl (by kernel_rfl) rfl (fun W' => ?_) ?_
   rotate_left
   ·go_simp; (try with_reducible rfl)
   simp only [Act.put,List.setIfInBounds_toArray,List.set_cons_zero,List.set_cons_succ]
   refine tkV (v:=?_) 24 (some 31) rfl rfl (by kernel_rfl) rfl (fun W' => ?_) ?_
   rotate_left
   ·go_simp; (try with_reducible rfl)
   simp only [Act.put,List.setIfInBounds_toArray,List.set_cons_zero,List.set_cons_succ]
   refine tkS 25 (some 32) rfl rfl (by kernel_rfl) rfl ?_
   simp only [Act.put,List.setIfInBounds_toArray,List.set_cons_zero,List.set_cons_succ]
   refine tkS 26 (some 33) rfl rfl (by kernel_rfl) rfl ?_
   simp only [Act.put,List.setIfInBounds_toArray,List.set_cons_zero,List.set_cons_succ]
   refine tkS 27 (some 34) rfl rfl (by kernel_rfl) rfl ?_
   simp only [Act.put,List.setIfInBounds_toArray,List.set_cons_zero,List.set_cons_succ]
   refine tkV (v:=?_) 28 (some 35) rfl rfl (by kernel_rfl) rfl (fun W' => ?_) ?_
   rotate_left
   ·go_simp; (try with_reducible rfl)
   simp only [Act.put,List.setIfInBounds_toArray,List.set_cons_zero,List.set_cons_succ]
   refine wpAnyH_done (by kernel_rfl) ?_ _
   obtain ⟨xc0,xc1,xc2,xc3,xc4,xc5,xc6⟩:=cells7 hst.x
   obtain ⟨yc0,yc1,yc2,yc3,yc4,yc5,yc6⟩:=cells7 hst.y
   obtain ⟨pf0,pf1,pf2,pf3,pf4,pf5,pf6⟩:=frozen7 hst.p
   obtain ⟨qf0,qf1,qf2,qf3,qf4,qf5,qf6⟩:=frozen7 hst.q
   obtain ⟨xf0,xf1,xf2,xf3,xf4,xf5,xf6⟩:=frozen7 hst.x
   obtain ⟨yf0,yf1,yf2,yf3,yf4,yf5,yf6⟩:=frozen7 hst.y
   clear RP RQ RP2 RQ2
   clear hrule h70 h69
   go_wp2
   all_goals
    refine bodyPost_ret (ret24 (gx:=w.heap.size + 1 + 1) (gy:=w.heap.size + 1 + 1 + 1) rfl rfl rfl ?_ ?_) rfl ⟨rfl,?_⟩
    ·exact ((keep7 (by omega) _ _ _ _ _ _ _).trans (set7 hst.x rfl _ _ _ _ _ _ _))
    ·exact (set7 ((keep7 (by omega) _ _ _ _ _ _ _).trans hst.y) rfl _ _ _ _ _ _ _)
    ·exact (below7 (below7 hst.below (by omega) _ _ _ _ _ _ _) (by omega) _ _ _ _ _ _ _)
  | true =>
   refine tkV (v:=?_) 17 (some 24) rfl rfl (by kernel_rfl) rfl (fun W' => ?_) ?_
   rotate_left
   ·go_simp; (try with_reducible rfl)
   simp only [Act.put,List.setIfInBounds_toArray,List.set_cons_zero,List.set_cons_succ]
   refine tkV (v:=?_) 18 (some 25) rfl rfl (by kernel_rfl) rfl (fun W' => ?_) ?_
   rotate_left
   ·go_simp; (try with_reducible rfl)
   simp only [Act.put,List.setIfInBounds_toArray,List.set_cons_zero,List.set_cons_succ]
   refine tkV (v:=?_) 19 (some 26) rfl rfl (by kernel_rfl) rfl (fun W' => ?_) ?_
   rotate_left
   ·go_simp; (try with_reducible rfl)
   simp only [Act.put,List.setIfInBounds_toArray,List.set_cons_zero,List.set_cons_succ]
   obtain ⟨pc0,pc1,pc2,pc3,pc4,pc5,pc6⟩:=cells7 hst.p
   refine wpAnyH_ready (rs:=[20]) (by kernel_rfl) (by simp) (AllReadyH.cons rfl (fun K hK => ?_) AllReadyH.nil)
   go_simp
   refine hK.out _ _ trivial (fun _ => ?_)
   clear hK K
   clear pc0 pc1 pc2 pc3 pc4 pc5 pc6
   refine wpAnyH_ready (rs:=[21]) (by kernel_rfl) (by simp) (AllReadyH.cons rfl (fun K hK => ?_) AllReadyH.nil)
   go_simp
   refine (RP2 _ _ _ hst).mono ?_
   rintro e w1 ⟨rfl,hst⟩
   refine hK.out _ _ trivial (fun _ => ?_)
   clear hK K
   cases x3 with
   | false =>
    refine tkV (v:=?_) 22 (some 29) rfl rfl (by kernel_rfl) rfl (fun W' => ?_) ?_
    rotate_left
    ·go_simp; (try with_reducible rfl)
    simp only [Act.put,List.setIfInBounds_toArray,List.set_cons_zero,List.set_cons_succ]
    refine tkV (v:=?_) 23 (some 30) rfl rfl (by kernel_rfl) rfl (fun W' => ?_) ?_
    rotate_left
    ·go_simp; (try with_reducible rfl)
    simp only [Act.put,List.setIfInBounds_toArray,List.set_cons_zero,List.set_cons_succ]
    refine tkV (v:=?_) 24 (some 31) rfl rfl (by kernel_rfl) rfl (fun W' => ?_) ?_
    rotate_left
    ·go_simp; (try with_reducible rfl)
    simp only [Act.put,List.setIfInBounds_toArray,List.set_cons_zero,List.set_cons_succ]
    refine tkS 25 (some 32) rfl rfl (by kernel_rfl) rfl ?_
    simp only [Act.put,List.setIfInBounds_toArray,List.set_cons_zero,List.set_cons_succ]
    refine tkS 26 (some 33) rfl rfl (by kernel_rfl) rfl ?_
    simp only [Act.put,List.setIfInBounds_toArray,List.set_cons_zero,List.set_cons_succ]
    refine tkS 27 (some 34) rfl rfl (by kernel_rfl) rfl ?_
    simp only [Act.put,List.setIfInBounds_toArray,List.set_cons_zero,List.set_cons_succ]
    refine tkV (v:=?_) 28 (some 35) rfl rfl (by kernel_rfl) rfl (fun W' => ?_) ?_
    rotate_left
    ·go_simp; (try with_reducible rfl)
    simp only [Act.put,List.setIfInBounds_toArray,List.set_cons_zero,List.set_cons_succ]
    refine wpAnyH_done (by kernel_rfl) ?_ _
    obtain ⟨xc0,xc1,xc2,xc3,xc4,xc5,xc6⟩:=cells7 hst.x
    obtain ⟨yc0,yc1,yc2,yc3,yc4,yc5,yc6⟩:=cells7 hst.y
    obtain ⟨pf0,pf1,pf2,pf3,pf4,pf5,pf6⟩:=frozen7 hst.p
    obtain ⟨qf0,qf1,qf2,qf3,qf4,qf5,qf6⟩:=frozen7 hst.q
    obtain ⟨xf0,xf1,xf2,xf3,xf4,xf5,xf6⟩:=frozen7 hst.x
    obtain ⟨yf0,yf1,yf2,yf3,yf4,yf5,yf6⟩:=frozen7 hst.y
    clear RP RQ RP2 RQ2
    clear hrule h70 h69
    go_wp2
    all_goals
     refine bodyPost_ret (ret24 (gx:=w.heap.size + 1 + 1) (gy:=w.heap.size + 1 + 1 + 1) rfl rfl rfl ?_ ?_) rfl ⟨rfl,?_⟩
     ·exact ((keep7 (by omega) _ _ _ _ _ _ _).trans (set7 hst.x rfl _ _ _ _ _ _ _))
     ·exact (set7 ((keep7 (by omega) _ _ _ _ _ _ _).trans hst.y) rfl _ _ _ _ _ _ _)
     ·exact (below7 (below7 hst.below (by omega) _ _ _ _ _ _ _) (by omega) _ _ _ _ _ _ _)
   | true =>
    refine tkV (v:=?_) 22 (some 29) rfl rfl (by kernel_rfl) rfl (fun W' => ?_) ?_
    rotate_left
    ·go_simp; (try with_reducible rfl)
    simp only [Act.put,List.setIfInBounds_toArray,List.set_cons_zero,List.set_cons_succ]
    refine tkV (v:=?_) 23 (some 30) rfl rfl (by kernel_rfl) rfl (fun W' => ?_) ?_
    rotate_left
    ·go_simp; (try with_reducible rfl)
    simp only [Act.put,List.setIfInBounds_toArray,List.set_cons_zero,List.set_cons_succ]
    refine tkV (v:=?_) 24 (some 31) rfl rfl (by kernel_rfl) rfl (fun W' => ?_) ?_
    rotate_left
    ·go_simp; (try with_reducible rfl)
    simp only [Act.put,List.setIfInBounds_toArray,List.set_cons_zero,List.set_cons_succ]
    obtain ⟨qc0,qc1,qc2,qc3,qc4,qc5,qc6⟩:=cells7 hst.q
    refine wpAnyH_ready (rs:=[25]) (by kernel_rfl) (by simp) (AllReadyH.cons rfl (fun K hK => ?_) AllReadyH.nil)
    go_simp
    refine hK.out _ _ trivial (fun _ => ?_)
    clear hK K
    clear qc0 qc1 qc2 qc3 qc4 qc5 qc6
    refine wpAnyH_ready (rs:=[26]) (by kernel_rfl) (by simp) (AllReadyH.cons rfl (fun K hK => ?_) AllReadyH.nil)
    go_simp
    refine (RQ2 _ _ _ hst).mono ?_
    rintro e w1 ⟨rfl,hst⟩
    refine hK.out _ _ trivial (fun _ => ?_)
    clear hK K
    cases x4 with
    | false =>
     refine tkV (v:=?_) 27 (some 34) rfl rfl (by kernel_rfl) rfl (fun W' => ?_) ?_
     rotate_left
     ·go_simp; (try with_reducible rfl)
     simp only [Act.put,List.setIfInBounds_toArray,List.set_cons_zero,List.set_cons_succ]
     refine tkV (v:=?_) 28 (some 35) rfl rfl (by kernel_rfl) rfl (fun W' => ?_) ?_
     rotate_left
     ·go_simp; (try with_reducible rfl)
     simp only [Act.put,List.setIfInBounds_toArray,List.set_cons_zero,List.set_cons_succ]
     refine wpAnyH_done (by kernel_rfl) ?_ _
     obtain ⟨xc0,xc1,xc2,xc3,xc4,xc5,xc6⟩:=cells7 hst.x
     obtain ⟨yc0,yc1,yc2,yc3,yc4,yc5,yc6⟩:=cells7 hst.y
     obtain ⟨pf0,pf1,pf2,pf3,pf4,pf5,pf6⟩:=frozen7 hst.p
     obtain ⟨qf0,qf1,qf2,qf3,qf4,qf5,qf6⟩:=frozen7 hst.q
     obtain ⟨xf0,xf1,xf2,xf3,xf4,xf5,xf6⟩:=frozen7 hst.x
     obtain ⟨yf0,yf1,yf2,yf3,yf4,yf5,yf6⟩:=frozen7 hst.y
     clear RP RQ RP2 RQ2
     clear hrule h70 h69
     go_wp2
     all_goals
      refine bodyPost_ret (ret24 (gx:=w.heap.size + 1 + 1) (gy:=w.heap.size + 1 + 1 + 1) rfl rfl rfl ?_ ?_) rfl ⟨rfl,?_⟩
      ·exact ((keep7 (by omega) _ _ _ _ _ _ _).trans (set7 hst.x rfl _ _ _ _ _ _ _))
      ·exact (set7 ((keep7 (by omega) _ _ _ _ _ _ _).trans hst.y) rfl _ _ _ _ _ _ _)
      ·exact (below7 (below7 hst.below (by omega) _ _ _ _ _ _ _) (by omega) _ _ _ _ _ _ _)
    | true =>
     refine tkV (v:=?_) 27 (some 34) rfl rfl (by kernel_rfl) rfl (fun W' => ?_) ?_
     rotate_left
     ·go_simp; (try with_reducible rfl)
     simp only [Act.put,List.setIfInBounds_toArray,List.set_cons_zero,List.set_cons_succ]
     refine tkV (v:=?_) 28 (some 35) rfl rfl (by kernel_rfl) rfl (fun W' => ?_) ?_
     rotate_left
     ·go_simp; (try with_reducible rfl)
     simp only [Act.put,List.setIfInBounds_toArray,List.set_cons_zero,List.set_cons_succ]
     refine wpAnyH_done (by kernel_rfl) ?_ _
     obtain ⟨pc0,pc1,pc2,pc3,pc4,pc5,pc6⟩:=cells7 hst.p
     obtain ⟨qc0,qc1,qc2,qc3,qc4,qc5,qc6⟩:=cells7 hst.q
     obtain ⟨xc0,xc1,xc2,xc3,xc4,xc5,xc6⟩:=cells7 hst.x
     obtain ⟨yc0,yc1,yc2,yc3,yc4,yc5,yc6⟩:=cells7 hst.y
     obtain ⟨pf0,pf1,pf2,pf3,pf4,pf5,pf6⟩:=frozen7 hst.p
     obtain ⟨qf0,qf1,qf2,qf3,qf4,qf5,qf6⟩:=frozen7 hst.q
     obtain ⟨xf0,xf1,xf2,xf3,xf4,xf5,xf6⟩:=frozen7 hst.x
     obtain ⟨yf0,yf1,yf2,yf3,yf4,yf5,yf6⟩:=frozen7 hst.y
     clear RP RQ RP2 RQ2
     clear hrule h70 h69
     go_wp2
     all_goals go_region
     all_goals go_wp2
     all_goals
      refine bodyPost_ret (ret24 (gx:=w.heap.size + 1 + 1) (gy:=w.heap.size + 1 + 1 + 1) rfl rfl rfl ?_ ?_) rfl ⟨rfl,?_⟩
      ·exact drew_at ((keep7 (by omega) _ _ _ _ _ _ _).trans (set7 hst.x rfl _ _ _ _ _ _ _))
      ·exact drew_at (set7 ((keep7 (by omega) _ _ _ _ _ _ _).trans hst.y) rfl _ _ _ _ _ _ _)
      ·exact Below.drew (below7 (below7 hst.below (by omega) _ _ _ _ _ _ _) (by omega) _ _ _ _ _ _ _)
end Go.Proofs.YthhohbidjhcjeaaDoor.H
