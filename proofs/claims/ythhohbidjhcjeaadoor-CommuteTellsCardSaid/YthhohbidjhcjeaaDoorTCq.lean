/- The contract of the reference's Past. -/
import Derived.Test.YthhohbidjhcjeaaDoorTCu
import Derived.Test.YthhohbidjhcjeaaDoorTCp
namespace Go.Proofs.YthhohbidjhcjeaaDoor.H
open Go.RowKit Go.Proofs.YthhohbidjhcjeaaDoorW.PrintWords Go.Proofs.YthhohbidjhcjeaaDoorW.PrintLast Go.Proofs.YthhohbidjhcjeaaDoorW.PrintMore
open Go.Proofs.YthhohbidjhcjeaaDoor.Q Go.Proofs.YthhohbidjhcjeaaDoor.Pl
set_option linter.unusedVariables false
set_option linter.unusedSimpArgs false
theorem cutG2 {S G : Nat → Nat → World → Prop} {goal : Prop} (h : (∀ g9 g10 W,S g9 g10 W → G g9 g10 W) → goal) (h2 : ∀ g9 g10 W,S g9 g10 W → G g9 g10 W) : goal:=h h2
/-- Two boxes that a region makes: what each holds, where it is made already. -/
structure Sd (wu : World) (b9 b10 : Option (Array Value)) (g9 g10 : Nat) (W : World) : Prop where
 below : Below wu.heap.size wu W
 nine : ∀ c,b9 = some c → wu.heap.size ≤ g9 ∧ W.heap[g9]? = some (.cells c 24 (0,0))
 ten : ∀ c,b10 = some c → wu.heap.size ≤ g10 ∧ W.heap[g10]? = some (.cells c 24 (0,0))
 ne : ∀ c d,b9 = some c → b10 = some d → g9 ≠ g10
theorem Sd.start (wu : World) (g9 g10 : Nat) : Sd wu none none g9 g10 wu:=⟨Below.refl _ _,fun _ h => (by cases h),fun _ h => (by cases h),fun _ _ h => (by cases h)⟩
theorem Sd.later {wu W W' : World} {b9 b10 : Option (Array Value)} {g9 g10 : Nat} (h : Sd wu b9 b10 g9 g10 W) (hb : Below W.heap.size W W') : Sd wu b9 b10 g9 g10 W' :=
 ⟨h.below.trans (hb.mono h.below.size),fun c hc => ⟨(h.nine c hc).1,blk_below (h.nine c hc).2 hb⟩,fun c hc => ⟨(h.ten c hc).1,blk_below (h.ten c hc).2 hb⟩,h.ne⟩
theorem Sd.alloc9 {wu W : World} {b10 : Option (Array Value)} {g9 g10 : Nat} (h : Sd wu none b10 g9 g10 W) (c : Array Value) : Sd wu (some c) b10 W.heap.size g10 (W.alloc (.cells c 24)):=by
 have h2:=h.later (below_alloc (Below.refl _ W) (.cells c 24))
 refine ⟨h2.below,fun d hd => ?_,h2.ten,fun _ d _ hd => ?_⟩
 ·cases hd
  exact ⟨h.below.size,blk_new W _⟩
 ·have:=blk_lt (h.ten d hd).2
  omega
theorem Sd.alloc10 {wu W : World} {b9 : Option (Array Value)} {g9 g10 : Nat} (h : Sd wu b9 none g9 g10 W) (c : Array Value) : Sd wu b9 (some c) g9 W.heap.size (W.alloc (.cells c 24)):=by
 have h2:=h.later (below_alloc (Below.refl _ W) (.cells c 24))
 refine ⟨h2.below,h2.nine,fun d hd => ?_,fun d _ hd _ => ?_⟩
 ·cases hd
  exact ⟨h.below.size,blk_new W _⟩
 ·have:=blk_lt (h.nine d hd).2
  omega
theorem Sd.set9 {wu W : World} {c d : Array Value} {g9 g10 : Nat} (h : Sd wu (some c) (some d) g9 g10 W) (hc : c.size = 7) (v0 v1 v2 v3 v4 v5 v6 : Value) :
  Sd wu (some #[v0,v1,v2,v3,v4,v5,v6]) (some d) g9 g10 (((((((W.setCell ⟨g9,0,none⟩ v0).setCell ⟨g9,1,none⟩ v1).setCell ⟨g9,2,none⟩ v2).setCell ⟨g9,3,none⟩ v3).setCell ⟨g9,4,none⟩ v4).setCell ⟨g9,5,none⟩ v5).setCell ⟨g9,6,none⟩ v6) :=
 ⟨below7 h.below (h.nine c rfl).1 v0 v1 v2 v3 v4 v5 v6,fun e he => by cases he; exact ⟨(h.nine c rfl).1,set7 (h.nine c rfl).2 hc v0 v1 v2 v3 v4 v5 v6⟩,
 fun e he => by cases he; exact ⟨(h.ten d rfl).1,(keep7 (Ne.symm (h.ne c d rfl rfl)) v0 v1 v2 v3 v4 v5 v6).trans (h.ten d rfl).2⟩,fun _ _ _ _ => h.ne c d rfl rfl⟩
theorem Sd.set10 {wu W : World} {c d : Array Value} {g9 g10 : Nat} (h : Sd wu (some c) (some d) g9 g10 W) (hd : d.size = 7) (v0 v1 v2 v3 v4 v5 v6 : Value) :
  Sd wu (some c) (some #[v0,v1,v2,v3,v4,v5,v6]) g9 g10 (((((((W.setCell ⟨g10,0,none⟩ v0).setCell ⟨g10,1,none⟩ v1).setCell ⟨g10,2,none⟩ v2).setCell ⟨g10,3,none⟩ v3).setCell ⟨g10,4,none⟩ v4).setCell ⟨g10,5,none⟩ v5).setCell ⟨g10,6,none⟩ v6) :=
 ⟨below7 h.below (h.ten d rfl).1 v0 v1 v2 v3 v4 v5 v6,fun e he => by cases he; exact ⟨(h.nine c rfl).1,(keep7 (h.ne c d rfl rfl) v0 v1 v2 v3 v4 v5 v6).trans (h.nine c rfl).2⟩,
 fun e he => by cases he; exact ⟨(h.ten d rfl).1,set7 (h.ten d rfl).2 hd v0 v1 v2 v3 v4 v5 v6⟩,fun _ _ _ _ => h.ne c d rfl rfl⟩
theorem tkH {P : Program} {md : Region.Mode} {ops : Array Oper} {Q : Exit → Act → World → Prop} {S : World → Prop} {oi : Oper} {v : Value} {fuel : Nat} {listed : Array Bool} {a : Act} {w : World} (i : Nat) (N : Option Tmp) (hi : ops[i]? = some oi) (hN : oi.dst = N)
  (hc : (Region.noSelect ops && Region.free md ops listed i && (Region.ready md ops listed).contains i) = true) (hw : Region.wanted oi (yielded ops a.tmps) = true)
  (hQ : ∀ c a w,Q (.panic c) (a.put N v) w → Q (.panic c) a w) (hy : ∀ w,S w → (execOp a.eval oi).run P w = .ok (.value v) w) (hS : S w)
  (h : wpAnyH P md ops Q S fuel (listed.setIfInBounds i true) (a.put N v) w) : wpAnyH P md ops Q S (fuel + 1) listed a w:=by
 subst hN
 simp only [Bool.and_eq_true] at hc
 exact wpAnyH_take hi hc.1.1 hc.1.2 hc.2 hQ (Or.inl ⟨hw,hy⟩) hS h
theorem ret27 {tmps : Array Value} {W : World} {gy : Nat} {y0 y1 y2 y3 y4 y5 y6 v r : Value} (h4 : tmps[4]? = some v) (h5 : tmps[5]? = some (.pointer (some ⟨gy,0,none⟩))) (h6 : tmps[6]? = some r)
  (hy : W.heap[gy]? = some (.cells #[y0,y1,y2,y3,y4,y5,y6] 24 (0,0))) :
  (results Tryd.f27 tmps).run Tryd.prog W = .ok (.tuple #[v,.agg #[y0,y1,y2,y3,y4,y5,y6],r]) W:=by
 have yc0 : W.cell? ⟨gy,0,none⟩ = some y0:=(blk_cell hy 0).trans rfl
 have yc1 : W.cell? ⟨gy,1,none⟩ = some y1:=(blk_cell hy 1).trans rfl
 have yc2 : W.cell? ⟨gy,2,none⟩ = some y2:=(blk_cell hy 2).trans rfl
 have yc3 : W.cell? ⟨gy,3,none⟩ = some y3:=(blk_cell hy 3).trans rfl
 have yc4 : W.cell? ⟨gy,4,none⟩ = some y4:=(blk_cell hy 4).trans rfl
 have yc5 : W.cell? ⟨gy,5,none⟩ = some y5:=(blk_cell hy 5).trans rfl
 have yc6 : W.cell? ⟨gy,6,none⟩ = some y6:=(blk_cell hy 6).trans rfl
 simp [results,Tryd.results27,go_sem, *]
/-- One step of the reference's Past: what its Commute answers, in each world that came out of wr. -/
theorem rpast_step (p' x : S24) (C5 : Option Addr) (e5 : Nat) (C6 : Option Addr) (e6 : Nat) (X5 : Option Addr) (x5 : Nat) (X6 : Option Addr) (x6 : Nat) (w wr : World) (hB : Below w.heap.size w wr) (hp : Okq p') (hx : Okq x) (rp : Rd w p' C5 e5 C6 e6) (rx : Rd w x X5 x5 X6 x6) :
  ∃ (a b : S24) (Y5 : Option Addr) (y5 : Nat) (Y6 : Option Addr) (y6 : Nat) (Z5 : Option Addr) (r5 : Nat) (Z6 : Option Addr) (r6 : Nat) (B : Bool),
   ((B = false ∧ comm p' x = (z24,z24,false)) ∨ (B = true ∧ Yes p' x a b ∧ Rd w a Y5 y5 Y6 y6 ∧ Rd w b Z5 r5 Z6 r6)) ∧
   ∀ W,Below wr.heap.size wr W → Calls Tryd.prog 25 #[.agg #[.int .i64 p'.f0,.string p'.f1,.string p'.f2,.string p'.f3,.int .i64 p'.f4,.slice C5 p'.f5.length e5,.slice C6 p'.f6.length e6],.agg #[.int .i64 x.f0,.string x.f1,.string x.f2,.string x.f3,.int .i64 x.f4,.slice X5 x.f5.length x5,.slice X6 x.f6.length x6]] W fun e W' => e = .returned (.tuple #[.agg #[.int .i64 a.f0,.string a.f1,.string a.f2,.string a.f3,.int .i64 a.f4,.slice Y5 a.f5.length y5,.slice Y6 a.f6.length y6],.agg #[.int .i64 b.f0,.string b.f1,.string b.f2,.string b.f3,.int .i64 b.f4,.slice Z5 b.f5.length r5,.slice Z6 b.f6.length r6],.bool B]) ∧ Below W.heap.size W W':=by
 have rd : ∀ W,Below wr.heap.size wr W → Rd W p' C5 e5 C6 e6 ∧ Rd W x X5 x5 X6 x6:=fun W hW => ⟨(rp.below hB).below hW,(rx.below hB).below hW⟩
 rcases comm_or p' x with hn | ⟨a,b,hy,-⟩
 ·refine ⟨z24,z24,none,0,none,0,none,0,none,0,false,.inl ⟨rfl,hn⟩,fun W hW => ?_⟩
  exact rcomm_not p' x C5 e5 C6 e6 X5 x5 X6 x6 W hp hx (rd W hW).1 (rd W hW).2 hn
 ·obtain ⟨kb,ka⟩:=rule_keep hy.r
  refine ⟨a,b,X5,x5,X6,x6,C5,e5,C6,e6,true,.inr ⟨rfl,hy,rx.of (by rw [ka]) (by rw [ka]),rp.of (by rw [kb]) (by rw [kb])⟩,fun W hW => ?_⟩
  exact rcomm_is p' x C5 e5 C6 e6 X5 x5 X6 x6 W hp hx (rd W hW).1 (rd W hW).2 hy
set_option maxHeartbeats 16000000 in
set_option maxRecDepth 100000 in
theorem rpast_at (p : S24) (l : List S24) (A5 : Option Addr) (a5 : Nat) (A6 : Option Addr) (a6 : Nat) (A : Option Addr) (c : Nat) (w : World) (hp : Okq p) (hl : ∀ x ∈ l,Okq x) (hn : l.length * 112 ≤ 140737488355328) (rp : Rd w p A5 a5 A6 a6) (gl : Kd.C k24 w A l.length l) (_hlc : l.length ≤ c) :
  Calls Tryd.prog 27 #[.agg #[.int .i64 p.f0,.string p.f1,.string p.f2,.string p.f3,.int .i64 p.f4,.slice A5 p.f5.length a5,.slice A6 p.f6.length a6],.slice A l.length c] w (PastPost w p l):=by
 go_enter Tryd.func27,Tryd.ntmps27
 go_wp2
 go_loopg [7,8] l.length (fun kq v7 v15 w' => ∃ (i : Nat) (ys : List S24) (p' : S24) (C5 : Option Addr) (e5 : Nat) (C6 : Option Addr) (e6 : Nat),v15 = .int .i64 (i : Int) ∧ Aside0 (i + kq = l.length) ∧ Aside0 (pastS p l = (pastS p' (l.drop i)).map (fun r => (ys ++ r.1,r.2))) ∧ Aside0 (ys.length = i) ∧ Aside0 (Okq p') ∧ Aside0 (Rd w p' C5 e5 C6 e6) ∧ Aside0 (Kd.N k24 24 w' w.heap.size (fun k_ => k_ ≠ w.heap.size ∧ k_ ≠ w.heap.size + 1) v7 ys) ∧ Aside0 (w'.heap[w.heap.size]? = some (.cells #[.int .i64 p'.f0,.string p'.f1,.string p'.f2,.string p'.f3,.int .i64 p'.f4,.slice C5 p'.f5.length e5,.slice C6 p'.f6.length e6] 24 (0,0))) ∧ Aside0 (w'.heap[w.heap.size + 1]? = some (.cells zeroC 24 (0,0))) ∧ Aside0 (Below w.heap.size w w'))
 case atStart => exact ⟨0,[],p,A5,a5,A6,a6,rfl,⟨by omega⟩,⟨by cases h : pastS p l with | none => rw [List.drop_zero,h]; rfl | some r => rw [List.drop_zero,h]; rfl⟩,⟨rfl⟩,⟨hp⟩,⟨rp⟩,⟨Kd.N_nil _ _ _ _ _⟩,⟨box1 w _ _⟩,⟨box2 w _ _⟩,⟨((Below.refl _ w).alloc (Nat.le_refl _) _).alloc (by simp) _⟩⟩
 case round =>
  obtain ⟨i,ys,p',C5,e5,C6,e6,rfl,hk,hpast,hlen,hp',rp',hN,xp,xr,hB⟩:=hrel
  by_cases hi : i < l.length
  ·have c1b : decide ((i : Int) < (l.length : Int)) = true:=decide_eq_true (by omega)
   obtain ⟨ad,X5,x5,X6,x6,eA,y0,y1,y2,y3,y4,y5,y6,l5,g5,l6,g6⟩:=at_T24 gl (i : Int) (by omega) (by omega)
   obtain ⟨x,hx⟩ : ∃ x,rd_T24 l (i : Int) = x:=⟨_,rfl⟩
   rw [hx] at y0 y1 y2 y3 y4 y5 y6 l5 g5 l6 g6
   have hxm : x = l[i]:=by rw [← hx,rd_T24_get l hi]
   have rx : Aside0 (Rd w x X5 x5 X6 x6):=⟨⟨g5,l5,g6,l6⟩⟩
   have hox : Okq x:=by rw [hxm]; exact hl _ (List.getElem_mem hi)
   have hbW:=hB.out
   have i0 : (0 : Int) ≤ (i : Int):=by omega
   have i1 : (i : Int) < (l.length : Int):=by omega
   have z0:=pw_cell_below hbW y0
   have z1:=pw_cell_below hbW y1
   have z2:=pw_cell_below hbW y2
   have z3:=pw_cell_below hbW y3
   have z4:=pw_cell_below hbW y4
   have z5:=pw_cell_below hbW y5
   have z6:=pw_cell_below hbW y6
   simp only [Int.toNat_natCast] at z0 z1 z2 z3 z4 z5 z6
   clear y0 y1 y2 y3 y4 y5 y6 l5 g5 l6 g6 hx
   subst eA
   have hszw:=hbW.size
   replace z0:=Aside0.mk z0
   replace z1:=Aside0.mk z1
   replace z2:=Aside0.mk z2
   replace z3:=Aside0.mk z3
   replace z4:=Aside0.mk z4
   replace z5:=Aside0.mk z5
   replace z6:=Aside0.mk z6
   have hxl:=Aside0.mk hxm
   clear hxm hbW
   obtain ⟨a,b,Y5,y5,Y6,y6,Z5,r5,Z6,r6,B,hout,hcall⟩:=rpast_step p' x C5 e5 C6 e6 X5 x5 X6 x6 w wr hB.out hp'.out hox rp'.out rx.out
   replace hout:=Aside0.mk hout
   replace hcall:=Aside0.mk hcall
   have hdrop : l.drop i = x :: l.drop (i + 1):=by rw [hxl.out]; exact List.drop_eq_getElem_cons hi
   have hdr:=Aside0.mk hdrop
   clear hdrop
   go_upto_region 5 with (fail)
   go_cut [9,10,11] from 12 to 35 (fun v9 v10 v11 w' => ∃ g9 g10 : Nat,v9 = .pointer (some ⟨g9,0,none⟩) ∧ v10 = .pointer (some ⟨g10,0,none⟩) ∧ v11 = .bool B ∧ Aside0 (Sd wr (some #[.int .i64 a.f0,.string a.f1,.string a.f2,.string a.f3,.int .i64 a.f4,.slice Y5 a.f5.length y5,.slice Y6 a.f6.length y6]) (some #[.int .i64 b.f0,.string b.f1,.string b.f2,.string b.f3,.int .i64 b.f4,.slice Z5 b.f5.length r5,.slice Z6 b.f6.length r6]) g9 g10 w'))
   case first =>
    refine wp_region_held_drew (S:=fun W => Below wr.heap.size wr W) (by kernel_rfl) (below_drew (Below.refl _ _)) (fun _ => ?_)
    apply cutG2 (S:=Sd wr (some zeroC) (some zeroC))
    intro t3
    apply cutG2 (S:=Sd wr none (some zeroC))
    intro t2
    apply cutG2 (S:=Sd wr (some zeroC) none)
    intro t1
    apply cutG2 (S:=Sd wr (some zeroC) (some zeroC))
    intro t0
    ·have hS0 : Sd wr none none 0 0 (World.drew wr):=(Sd.start wr 0 0).later (below_drew (Below.refl _ _))
     obtain ⟨g9,e9⟩ : ∃ n : Nat,n = 0:=⟨0,rfl⟩
     obtain ⟨g10,e10⟩ : ∃ n : Nat,n = 0:=⟨0,rfl⟩
     have hS : Sd wr none none g9 g10 (World.drew wr):=by rw [e9,e10]; exact hS0
     clear hS0 e9 e10
     generalize World.drew wr = W at hS ⊢
     refine tkH (v:=?_) 0 (some 19) rfl rfl (by kernel_rfl) (by kernel_rfl) (fun _ _ _ h => h) (fun W' hSW => ?_) hS.below ?_
     rotate_left
     ·obtain ⟨k0,k1,k2,k3,k4,k5,k6⟩:=cells7 (blk_below xp.out hSW); go_simp; (try with_reducible rfl)
     simp only [Act.put,List.setIfInBounds_toArray,List.set_cons_zero,List.set_cons_succ]
     refine tkH (v:=?_) 1 (some 20) rfl rfl (by kernel_rfl) (by kernel_rfl) (fun _ _ _ h => h) (fun W' hSW => ?_) hS.below ?_
     rotate_left
     ·go_simp; (try with_reducible rfl)
     simp only [Act.put,List.setIfInBounds_toArray,List.set_cons_zero,List.set_cons_succ]
     refine tkH (v:=?_) 2 (some 21) rfl rfl (by kernel_rfl) (by kernel_rfl) (fun _ _ _ h => h) (fun W' hSW => ?_) hS.below ?_
     rotate_left
     ·go_simp; (try with_reducible rfl)
     simp only [Act.put,List.setIfInBounds_toArray,List.set_cons_zero,List.set_cons_succ]
     refine tkH (v:=?_) 3 (some 22) rfl rfl (by kernel_rfl) (by kernel_rfl) (fun _ _ _ h => h) (fun W' hSW => ?_) hS.below ?_
     rotate_left
     ·go_simp; (try with_reducible rfl)
     simp only [Act.put,List.setIfInBounds_toArray,List.set_cons_zero,List.set_cons_succ]
     refine tkH (v:=?_) 4 (some 23) rfl rfl (by kernel_rfl) (by kernel_rfl) (fun _ _ _ h => h) (fun W' hSW => ?_) hS.below ?_
     rotate_left
     ·have q0:=pw_cell_below hSW z0.out; have q1:=pw_cell_below hSW z1.out; have q2:=pw_cell_below hSW z2.out; have q3:=pw_cell_below hSW z3.out; have q4:=pw_cell_below hSW z4.out; have q5:=pw_cell_below hSW z5.out; have q6:=pw_cell_below hSW z6.out; go_simp; (try with_reducible rfl)
     simp only [Act.put,List.setIfInBounds_toArray,List.set_cons_zero,List.set_cons_succ]
     refine wpAnyH_ready (rs:=[5,10,11]) (by kernel_rfl) (by simp) (AllReadyH.cons rfl (fun K hK => ?_) (AllReadyH.cons rfl (fun K hK => ?_) (AllReadyH.cons rfl (fun K hK => ?_) AllReadyH.nil)))
     ·go_simp
      refine (hcall.out _ hS.below).mono ?_
      rintro e W ⟨rfl,hb⟩
      replace hS:=hS.later hb
      refine hK.out _ _ hS.below (fun _ => ?_)
      clear hK K
      refine tkH (v:=?_) 6 (some 18) rfl rfl (by kernel_rfl) (by kernel_rfl) (fun _ _ _ h => h) (fun W' hSW => ?_) hS.below ?_
      rotate_left
      ·go_simp; (try with_reducible rfl)
      simp only [Act.put,List.setIfInBounds_toArray,List.set_cons_zero,List.set_cons_succ]
      refine tkH (v:=?_) 7 (some 25) rfl rfl (by kernel_rfl) (by kernel_rfl) (fun _ _ _ h => h) (fun W' hSW => ?_) hS.below ?_
      rotate_left
      ·go_simp; (try with_reducible rfl)
      simp only [Act.put,List.setIfInBounds_toArray,List.set_cons_zero,List.set_cons_succ]
      refine tkH (v:=?_) 8 (some 26) rfl rfl (by kernel_rfl) (by kernel_rfl) (fun _ _ _ h => h) (fun W' hSW => ?_) hS.below ?_
      rotate_left
      ·go_simp; (try with_reducible rfl)
      simp only [Act.put,List.setIfInBounds_toArray,List.set_cons_zero,List.set_cons_succ]
      refine tkH (v:=?_) 9 (some 27) rfl rfl (by kernel_rfl) (by kernel_rfl) (fun _ _ _ h => h) (fun W' hSW => ?_) hS.below ?_
      rotate_left
      ·go_simp; (try with_reducible rfl)
      simp only [Act.put,List.setIfInBounds_toArray,List.set_cons_zero,List.set_cons_succ]
      refine wpAnyH_ready (rs:=[10,11]) (by kernel_rfl) (by simp) (AllReadyH.cons rfl (fun K hK => ?_) (AllReadyH.cons rfl (fun K hK => ?_) AllReadyH.nil))
      ·go_simp
       replace hS:=hS.alloc9 zeroC
       refine hK.out _ _ hS.below (fun _ => ?_)
       clear hK K
       generalize W.heap.size = g9 at hS ⊢
       generalize W.alloc (.cells zeroC 24) = W at hS ⊢
       exact wpAnyH_at (l':=#[true,true,true,true,true,true,true,true,true,true,true,false,false,false,false]) (by kernel_rfl) (t1 g9 g10 _ hS)
      ·go_simp
       replace hS:=hS.alloc10 zeroC
       refine hK.out _ _ hS.below (fun _ => ?_)
       clear hK K
       generalize W.heap.size = g10 at hS ⊢
       generalize W.alloc (.cells zeroC 24) = W at hS ⊢
       exact wpAnyH_at (l':=#[true,true,true,true,true,true,true,true,true,true,false,true,false,false,false]) (by kernel_rfl) (t2 g9 g10 _ hS)
     ·go_simp
      replace hS:=hS.alloc9 zeroC
      refine hK.out _ _ hS.below (fun _ => ?_)
      clear hK K
      generalize W.heap.size = g9 at hS ⊢
      generalize W.alloc (.cells zeroC 24) = W at hS ⊢
      refine wpAnyH_ready (rs:=[5,11]) (by kernel_rfl) (by simp) (AllReadyH.cons rfl (fun K hK => ?_) (AllReadyH.cons rfl (fun K hK => ?_) AllReadyH.nil))
      ·go_simp
       refine (hcall.out _ hS.below).mono ?_
       rintro e W ⟨rfl,hb⟩
       replace hS:=hS.later hb
       refine hK.out _ _ hS.below (fun _ => ?_)
       clear hK K
       refine tkH (v:=?_) 6 (some 18) rfl rfl (by kernel_rfl) (by kernel_rfl) (fun _ _ _ h => h) (fun W' hSW => ?_) hS.below ?_
       rotate_left
       ·go_simp; (try with_reducible rfl)
       simp only [Act.put,List.setIfInBounds_toArray,List.set_cons_zero,List.set_cons_succ]
       refine tkH (v:=?_) 7 (some 25) rfl rfl (by kernel_rfl) (by kernel_rfl) (fun _ _ _ h => h) (fun W' hSW => ?_) hS.below ?_
       rotate_left
       ·go_simp; (try with_reducible rfl)
       simp only [Act.put,List.setIfInBounds_toArray,List.set_cons_zero,List.set_cons_succ]
       refine tkH (v:=?_) 8 (some 26) rfl rfl (by kernel_rfl) (by kernel_rfl) (fun _ _ _ h => h) (fun W' hSW => ?_) hS.below ?_
       rotate_left
       ·go_simp; (try with_reducible rfl)
       simp only [Act.put,List.setIfInBounds_toArray,List.set_cons_zero,List.set_cons_succ]
       refine tkH (v:=?_) 9 (some 27) rfl rfl (by kernel_rfl) (by kernel_rfl) (fun _ _ _ h => h) (fun W' hSW => ?_) hS.below ?_
       rotate_left
       ·go_simp; (try with_reducible rfl)
       simp only [Act.put,List.setIfInBounds_toArray,List.set_cons_zero,List.set_cons_succ]
       exact wpAnyH_at (l':=#[true,true,true,true,true,true,true,true,true,true,true,false,false,false,false]) (by kernel_rfl) (t1 g9 g10 _ hS)
      ·go_simp
       replace hS:=hS.alloc10 zeroC
       refine hK.out _ _ hS.below (fun _ => ?_)
       clear hK K
       generalize W.heap.size = g10 at hS ⊢
       generalize W.alloc (.cells zeroC 24) = W at hS ⊢
       exact wpAnyH_at (l':=#[true,true,true,true,true,false,false,false,false,false,true,true,false,false,false]) (by kernel_rfl) (t0 g9 g10 _ hS)
     ·go_simp
      replace hS:=hS.alloc10 zeroC
      refine hK.out _ _ hS.below (fun _ => ?_)
      clear hK K
      generalize W.heap.size = g10 at hS ⊢
      generalize W.alloc (.cells zeroC 24) = W at hS ⊢
      refine wpAnyH_ready (rs:=[5,10]) (by kernel_rfl) (by simp) (AllReadyH.cons rfl (fun K hK => ?_) (AllReadyH.cons rfl (fun K hK => ?_) AllReadyH.nil))
      ·go_simp
       refine (hcall.out _ hS.below).mono ?_
       rintro e W ⟨rfl,hb⟩
       replace hS:=hS.later hb
       refine hK.out _ _ hS.below (fun _ => ?_)
       clear hK K
       refine tkH (v:=?_) 6 (some 18) rfl rfl (by kernel_rfl) (by kernel_rfl) (fun _ _ _ h => h) (fun W' hSW => ?_) hS.below ?_
       rotate_left
       ·go_simp; (try with_reducible rfl)
       simp only [Act.put,List.setIfInBounds_toArray,List.set_cons_zero,List.set_cons_succ]
       refine tkH (v:=?_) 7 (some 25) rfl rfl (by kernel_rfl) (by kernel_rfl) (fun _ _ _ h => h) (fun W' hSW => ?_) hS.below ?_
       rotate_left
       ·go_simp; (try with_reducible rfl)
       simp only [Act.put,List.setIfInBounds_toArray,List.set_cons_zero,List.set_cons_succ]
       refine tkH (v:=?_) 8 (some 26) rfl rfl (by kernel_rfl) (by kernel_rfl) (fun _ _ _ h => h) (fun W' hSW => ?_) hS.below ?_
       rotate_left
       ·go_simp; (try with_reducible rfl)
       simp only [Act.put,List.setIfInBounds_toArray,List.set_cons_zero,List.set_cons_succ]
       refine tkH (v:=?_) 9 (some 27) rfl rfl (by kernel_rfl) (by kernel_rfl) (fun _ _ _ h => h) (fun W' hSW => ?_) hS.below ?_
       rotate_left
       ·go_simp; (try with_reducible rfl)
       simp only [Act.put,List.setIfInBounds_toArray,List.set_cons_zero,List.set_cons_succ]
       exact wpAnyH_at (l':=#[true,true,true,true,true,true,true,true,true,true,false,true,false,false,false]) (by kernel_rfl) (t2 g9 g10 _ hS)
      ·go_simp
       replace hS:=hS.alloc9 zeroC
       refine hK.out _ _ hS.below (fun _ => ?_)
       clear hK K
       generalize W.heap.size = g9 at hS ⊢
       generalize W.alloc (.cells zeroC 24) = W at hS ⊢
       exact wpAnyH_at (l':=#[true,true,true,true,true,false,false,false,false,false,true,true,false,false,false]) (by kernel_rfl) (t0 g9 g10 _ hS)
    ·intro g9 g10 W hS
     refine wpAnyH_ready (rs:=[5]) (by kernel_rfl) (by simp) (AllReadyH.cons rfl (fun K hK => ?_) AllReadyH.nil)
     go_simp
     refine (hcall.out _ hS.below).mono ?_
     rintro e W ⟨rfl,hb⟩
     replace hS:=hS.later hb
     refine hK.out _ _ hS.below (fun _ => ?_)
     clear hK K
     refine tkH (v:=?_) 6 (some 18) rfl rfl (by kernel_rfl) (by kernel_rfl) (fun _ _ _ h => h) (fun W' hSW => ?_) hS.below ?_
     rotate_left
     ·go_simp; (try with_reducible rfl)
     simp only [Act.put,List.setIfInBounds_toArray,List.set_cons_zero,List.set_cons_succ]
     refine tkH (v:=?_) 7 (some 25) rfl rfl (by kernel_rfl) (by kernel_rfl) (fun _ _ _ h => h) (fun W' hSW => ?_) hS.below ?_
     rotate_left
     ·go_simp; (try with_reducible rfl)
     simp only [Act.put,List.setIfInBounds_toArray,List.set_cons_zero,List.set_cons_succ]
     refine tkH (v:=?_) 8 (some 26) rfl rfl (by kernel_rfl) (by kernel_rfl) (fun _ _ _ h => h) (fun W' hSW => ?_) hS.below ?_
     rotate_left
     ·go_simp; (try with_reducible rfl)
     simp only [Act.put,List.setIfInBounds_toArray,List.set_cons_zero,List.set_cons_succ]
     refine tkH (v:=?_) 9 (some 27) rfl rfl (by kernel_rfl) (by kernel_rfl) (fun _ _ _ h => h) (fun W' hSW => ?_) hS.below ?_
     rotate_left
     ·go_simp; (try with_reducible rfl)
     simp only [Act.put,List.setIfInBounds_toArray,List.set_cons_zero,List.set_cons_succ]
     exact wpAnyH_at (l':=#[true,true,true,true,true,true,true,true,true,true,true,true,false,false,false]) (by kernel_rfl) (t3 g9 g10 _ hS)
    ·intro g9 g10 W hS
     refine wpAnyH_ready (rs:=[11]) (by kernel_rfl) (by simp) (AllReadyH.cons rfl (fun K hK => ?_) AllReadyH.nil)
     go_simp
     replace hS:=hS.alloc10 zeroC
     refine hK.out _ _ hS.below (fun _ => ?_)
     clear hK K
     generalize W.heap.size = g10 at hS ⊢
     generalize W.alloc (.cells zeroC 24) = W at hS ⊢
     exact wpAnyH_at (l':=#[true,true,true,true,true,true,true,true,true,true,true,true,false,false,false]) (by kernel_rfl) (t3 g9 g10 _ hS)
    ·intro g9 g10 W hS
     refine wpAnyH_ready (rs:=[10]) (by kernel_rfl) (by simp) (AllReadyH.cons rfl (fun K hK => ?_) AllReadyH.nil)
     go_simp
     replace hS:=hS.alloc9 zeroC
     refine hK.out _ _ hS.below (fun _ => ?_)
     clear hK K
     generalize W.heap.size = g9 at hS ⊢
     generalize W.alloc (.cells zeroC 24) = W at hS ⊢
     exact wpAnyH_at (l':=#[true,true,true,true,true,true,true,true,true,true,true,true,false,false,false]) (by kernel_rfl) (t3 g9 g10 _ hS)
    ·intro g9 g10 W hS
     obtain ⟨k0,k1,k2,k3,k4,k5,k6⟩:=cells7 (hS.nine _ rfl).2
     obtain ⟨f0,f1,f2,f3,f4,f5,f6⟩:=frozen7 (hS.nine _ rfl).2
     refine wpAnyH_ready (rs:=[12]) (by kernel_rfl) (by simp) (AllReadyH.cons rfl (fun K hK => ?_) AllReadyH.nil)
     go_simp
     replace hS:=hS.set9 rfl (.int .i64 a.f0) (.string a.f1) (.string a.f2) (.string a.f3) (.int .i64 a.f4) (.slice Y5 a.f5.length y5) (.slice Y6 a.f6.length y6)
     clear k0 f0 k1 f1 k2 f2 k3 f3 k4 f4 k5 f5 k6 f6
     refine hK.out _ _ hS.below (fun _ => ?_)
     clear hK K
     obtain ⟨k0,k1,k2,k3,k4,k5,k6⟩:=cells7 (hS.ten _ rfl).2
     obtain ⟨f0,f1,f2,f3,f4,f5,f6⟩:=frozen7 (hS.ten _ rfl).2
     refine wpAnyH_ready (rs:=[13]) (by kernel_rfl) (by simp) (AllReadyH.cons rfl (fun K hK => ?_) AllReadyH.nil)
     go_simp
     replace hS:=hS.set10 rfl (.int .i64 b.f0) (.string b.f1) (.string b.f2) (.string b.f3) (.int .i64 b.f4) (.slice Z5 b.f5.length r5) (.slice Z6 b.f6.length r6)
     clear k0 f0 k1 f1 k2 f2 k3 f3 k4 f4 k5 f5 k6 f6
     refine hK.out _ _ hS.below (fun _ => ?_)
     clear hK K
     refine tkH (v:=?_) 14 (some 11) rfl rfl (by kernel_rfl) (by kernel_rfl) (fun _ _ _ h => h) (fun W' hSW => ?_) hS.below ?_
     rotate_left
     ·go_simp; (try with_reducible rfl)
     simp only [Act.put,List.setIfInBounds_toArray,List.set_cons_zero,List.set_cons_succ]
     refine wpAnyH_done (by kernel_rfl) ?_ _
     go_wp2
     go_meet
     case rel => exact ⟨_,_,rfl,rfl,rfl,⟨hS⟩⟩
   case rest =>
    obtain ⟨g9,g10,rfl,rfl,rfl,hSd⟩:=hcut
    clear hcall
    have hs2:=hSd.out.below
    have hB2 : Aside0 (Below w.heap.size w wc):=⟨hB.out.trans (hs2.mono hB.out.size)⟩
    have xp2:=blk_below xp.out hs2
    have xr2:=blk_below xr.out hs2
    have hN2:=Aside0.mk (Kd.N_below hN.out hs2)
    have hsz2:=hs2.size
    have x9:=(hSd.out.nine _ rfl).2
    have x10:=(hSd.out.ten _ rfl).2
    have l9:=(hSd.out.nine _ rfl).1
    have l10:=(hSd.out.ten _ rfl).1
    clear hs2 z0 z1 z2 z3 z4 z5 z6
    rcases hout.out with ⟨rfl,hn4⟩ | ⟨rfl,hy,ra,rb⟩
    ·have hno:=Aside0.mk hn4
     clear hn4 hout
     obtain ⟨xc0,xc1,xc2,xc3,xc4,xc5,xc6⟩:=cells7 xr2
     obtain ⟨xf0,xf1,xf2,xf3,xf4,xf5,xf6⟩:=frozen7 xr2
     have hz : Aside0 (past p l = ([],z24,false)):=⟨by unfold past; rw [hpast.out,hdr.out,pastS,hno.out,if_neg (by simp)]; rfl⟩
     go_wp2
     (try simp only [Exit.noGoto_ret,Exit.inBlock,Exit.then])
     refine bodyPost_ret (ret27 (gy:=w.heap.size + 1) (y0:=.int .i64 0) (y1:=.string ⟨#[]⟩) (y2:=.string ⟨#[]⟩) (y3:=.string ⟨#[]⟩) (y4:=.int .i64 0) (y5:=.slice none 0 0) (y6:=.slice none 0 0) rfl rfl rfl ?_) rfl ?_
     ·exact set7 xr2 rfl _ _ _ _ _ _ _
     ·unfold PastPost
      rw [hz.out]
      exact ⟨none,0,none,0,none,0,rfl,Kd.C_nil _ _,Nat.le_refl _,⟨Kd.C_nil _ _,Nat.le_refl _,Kd.C_nil _ _,Nat.le_refl _⟩,below7 hB2.out (by omega) _ _ _ _ _ _ _⟩
    ·cases gk with
     | zero => have:=hk.out; omega
     | succ k1 =>
      replace ra:=Aside0.mk ra
      replace rb:=Aside0.mk rb
      have hob : Okq b:=(okq_yes hy hp'.out hox).2
      have hcy:=Aside0.mk (comm_of hy)
      have hown : ∀ k,u7.ownBlock = some k → w.heap.size ≤ k ∧ k < wr.heap.size:=fun k hk => ⟨Kd.N_base hN.out k hk,Kd.N_lt hN.out k hk⟩
      have hon : ∀ k,(k < w.heap.size ∨ wr.heap.size ≤ k) → some k ≠ u7.ownBlock:=fun k hk he => by have:=hown k he.symm; omega
      have fkA : Aside0 (Kd.FK k24 wc (fun k_ => k_ < w.heap.size) a [.int .i64 a.f0,.string a.f1,.string a.f2,.string a.f3,.int .i64 a.f4,.slice Y5 a.f5.length y5,.slice Y6 a.f6.length y6]):=⟨k24_mkF _ _ a ra.out.l5 (Kd.F_below (Kd.C_F Kd.heap_string ra.out.g5) hB2.out) ra.out.l6 (Kd.F_below (Kd.C_F Kd.heap_string ra.out.g6) hB2.out)⟩
      have hokA : Aside0 (∀ k,k < w.heap.size → (k ≠ w.heap.size ∧ k ≠ w.heap.size + 1) ∧ some k ≠ u7.ownBlock):=⟨fun k hk => ⟨⟨by omega,by omega⟩,hon k (.inl hk)⟩⟩
      have hfrA : Aside0 (∀ k,wc.heap.size ≤ k → k ≠ w.heap.size ∧ k ≠ w.heap.size + 1):=⟨fun k hk => by have:=blk_lt xr2; omega⟩
      have hLA : Aside0 ((ys.length + 1) * 112 ≤ 140737488355328):=⟨by have:=hlen.out; omega⟩
      have n1 : some g10 ≠ u7.ownBlock:=hon _ (.inr l10)
      have n2 : some w.heap.size ≠ u7.ownBlock:=Kd.N_away hN.out (fun k hk => hk.1)
      have n3 : some (w.heap.size + 1) ≠ u7.ownBlock:=Kd.N_away hN.out (fun k hk => hk.2)
      have xbA : Aside0 (∀ w3,wc.grownBy w3 u7.ownBlock → w3.heap[g10]? = some (.cells #[.int .i64 b.f0,.string b.f1,.string b.f2,.string b.f3,.int .i64 b.f4,.slice Z5 b.f5.length r5,.slice Z6 b.f6.length r6] 24 (0,0))):=⟨fun w3 hg => (hg.block _ (blk_lt x10) n1).trans x10⟩
      have xpA : Aside0 (∀ w3,wc.grownBy w3 u7.ownBlock → w3.heap[w.heap.size]? = some (.cells #[.int .i64 p'.f0,.string p'.f1,.string p'.f2,.string p'.f3,.int .i64 p'.f4,.slice C5 p'.f5.length e5,.slice C6 p'.f6.length e6] 24 (0,0))):=⟨fun w3 hg => (hg.block _ (blk_lt xp2) n2).trans xp2⟩
      have xrA : Aside0 (∀ w3,wc.grownBy w3 u7.ownBlock → w3.heap[w.heap.size + 1]? = some (.cells zeroC 24 (0,0))):=⟨fun w3 hg => (hg.block _ (blk_lt xr2) n3).trans xr2⟩
      clear hy hown hon n1 n2 n3 hout
      obtain ⟨nc0,nc1,nc2,nc3,nc4,nc5,nc6⟩:=cells7 x9
      clear x9 x10 l9 l10
      go_wp2_with (((with_reducible refine gate_builtin (b:=.append) (xs:=#[.tmp 31,.tmp 33]) rfl ?_); at_builtin; refine Kd.N_append k24 (w0:=w) w.heap.size rfl (.tmp 31) (.tmp 33) 25 24 (.agg #[(.int .i64 0),(.string ⟨#[]⟩),(.string ⟨#[]⟩),(.string ⟨#[]⟩),(.int .i64 0),(.slice none 0 0),(.slice none 0 0)]) 112 rfl Tryd.underlying25 infoQ rfl (by decide) (by omega) u7 ys a [.int .i64 a.f0,.string a.f1,.string a.f2,.string a.f3,.int .i64 a.f4,.slice Y5 a.f5.length y5,.slice Y6 a.f6.length y6] (fun k_ => k_ ≠ w.heap.size ∧ k_ ≠ w.heap.size + 1) (fun k_ => k_ < w.heap.size) rfl rfl ?aP ?aH ?aF ?aO ?aB ?aS ?aL ?_; (case aP => exact fkA.out); (case aH => exact hokA.out); (case aF => exact hfrA.out); (case aO => exact hN2.out); (case aB => exact hB2.out); (case aS => exact hB2.out.size); (case aL => exact hLA.out); intro y1 w3 hN3 hB3 hg3 hat3; have xb3:=xbA.out _ hg3; have xp3:=xpA.out _ hg3; have xr3:=xrA.out _ hg3; have bc0 : w3.cell? ⟨g10,0,none⟩ = some (.int .i64 b.f0):=(blk_cell xb3 0).trans rfl; have bc1 : w3.cell? ⟨g10,1,none⟩ = some (.string b.f1):=(blk_cell xb3 1).trans rfl; have bc2 : w3.cell? ⟨g10,2,none⟩ = some (.string b.f2):=(blk_cell xb3 2).trans rfl; have bc3 : w3.cell? ⟨g10,3,none⟩ = some (.string b.f3):=(blk_cell xb3 3).trans rfl; have bc4 : w3.cell? ⟨g10,4,none⟩ = some (.int .i64 b.f4):=(blk_cell xb3 4).trans rfl; have bc5 : w3.cell? ⟨g10,5,none⟩ = some (.slice Z5 b.f5.length r5):=(blk_cell xb3 5).trans rfl; have bc6 : w3.cell? ⟨g10,6,none⟩ = some (.slice Z6 b.f6.length r6):=(blk_cell xb3 6).trans rfl; have pc0 : w3.cell? ⟨w.heap.size,0,none⟩ = some (.int .i64 p'.f0):=(blk_cell xp3 0).trans rfl; have pc1 : w3.cell? ⟨w.heap.size,1,none⟩ = some (.string p'.f1):=(blk_cell xp3 1).trans rfl; have pc2 : w3.cell? ⟨w.heap.size,2,none⟩ = some (.string p'.f2):=(blk_cell xp3 2).trans rfl; have pc3 : w3.cell? ⟨w.heap.size,3,none⟩ = some (.string p'.f3):=(blk_cell xp3 3).trans rfl; have pc4 : w3.cell? ⟨w.heap.size,4,none⟩ = some (.int .i64 p'.f4):=(blk_cell xp3 4).trans rfl; have pc5 : w3.cell? ⟨w.heap.size,5,none⟩ = some (.slice C5 p'.f5.length e5):=(blk_cell xp3 5).trans rfl; have pc6 : w3.cell? ⟨w.heap.size,6,none⟩ = some (.slice C6 p'.f6.length e6):=(blk_cell xp3 6).trans rfl; have pf0:=blk_frozen xp3 0; have pf1:=blk_frozen xp3 1; have pf2:=blk_frozen xp3 2; have pf3:=blk_frozen xp3 3; have pf4:=blk_frozen xp3 4; have pf5:=blk_frozen xp3 5; have pf6:=blk_frozen xp3 6))
      go_roundg k1
      case measure => omega
      case rel =>
       refine ⟨i + 1,ys ++ [a],b,Z5,r5,Z6,r6,?_,⟨by have:=hk.out; omega⟩,⟨?_⟩,⟨by have:=hlen.out; simp; omega⟩,⟨hob⟩,rb,⟨N_far7 hN3 (fun k hk => hk.1) _ _ _ _ _ _ _⟩,⟨set7 xp3 rfl _ _ _ _ _ _ _⟩,⟨(keep7 (by omega) _ _ _ _ _ _ _).trans xr3⟩,⟨below7 hB3 (Nat.le_refl _) _ _ _ _ _ _ _⟩⟩
       ·first | rfl | (rw [wrap_1 hi (by omega)])
       ·rw [hpast.out,hdr.out,pastS,hcy.out,if_pos rfl]
        cases pastS b (l.drop (i + 1)) with
        | none => rfl
        | some r => simp
  ·have c1b : decide ((i : Int) < (l.length : Int)) = false:=decide_eq_false (by omega)
   have pc0 : wr.cell? ⟨w.heap.size,0,none⟩ = some (.int .i64 p'.f0):=(blk_cell xp.out 0).trans rfl
   have pc1 : wr.cell? ⟨w.heap.size,1,none⟩ = some (.string p'.f1):=(blk_cell xp.out 1).trans rfl
   have pc2 : wr.cell? ⟨w.heap.size,2,none⟩ = some (.string p'.f2):=(blk_cell xp.out 2).trans rfl
   have pc3 : wr.cell? ⟨w.heap.size,3,none⟩ = some (.string p'.f3):=(blk_cell xp.out 3).trans rfl
   have pc4 : wr.cell? ⟨w.heap.size,4,none⟩ = some (.int .i64 p'.f4):=(blk_cell xp.out 4).trans rfl
   have pc5 : wr.cell? ⟨w.heap.size,5,none⟩ = some (.slice C5 p'.f5.length e5):=(blk_cell xp.out 5).trans rfl
   have pc6 : wr.cell? ⟨w.heap.size,6,none⟩ = some (.slice C6 p'.f6.length e6):=(blk_cell xp.out 6).trans rfl
   have xc0 : wr.cell? ⟨w.heap.size + 1,0,none⟩ = some (.int .i64 0):=(blk_cell xr.out 0).trans rfl
   have xc1 : wr.cell? ⟨w.heap.size + 1,1,none⟩ = some (.string ⟨#[]⟩):=(blk_cell xr.out 1).trans rfl
   have xc2 : wr.cell? ⟨w.heap.size + 1,2,none⟩ = some (.string ⟨#[]⟩):=(blk_cell xr.out 2).trans rfl
   have xc3 : wr.cell? ⟨w.heap.size + 1,3,none⟩ = some (.string ⟨#[]⟩):=(blk_cell xr.out 3).trans rfl
   have xc4 : wr.cell? ⟨w.heap.size + 1,4,none⟩ = some (.int .i64 0):=(blk_cell xr.out 4).trans rfl
   have xc5 : wr.cell? ⟨w.heap.size + 1,5,none⟩ = some (.slice none 0 0):=(blk_cell xr.out 5).trans rfl
   have xc6 : wr.cell? ⟨w.heap.size + 1,6,none⟩ = some (.slice none 0 0):=(blk_cell xr.out 6).trans rfl
   have xf0:=blk_frozen xr.out 0
   have xf1:=blk_frozen xr.out 1
   have xf2:=blk_frozen xr.out 2
   have xf3:=blk_frozen xr.out 3
   have xf4:=blk_frozen xr.out 4
   have xf5:=blk_frozen xr.out 5
   have xf6:=blk_frozen xr.out 6
   have hz : Aside0 (past p l = (ys,p',true)):=⟨by unfold past; rw [hpast.out,List.drop_of_length_le (by omega),pastS]; simp⟩
   obtain ⟨D,d,rfl,hd,hC⟩:=Kd.N_reads hN.out
   go_wp2
   all_goals go_region
   all_goals go_wp2
   all_goals
    refine bodyPost_ret (ret27 (gy:=w.heap.size + 1) (y0:=.int .i64 p'.f0) (y1:=.string p'.f1) (y2:=.string p'.f2) (y3:=.string p'.f3) (y4:=.int .i64 p'.f4) (y5:=.slice C5 p'.f5.length e5) (y6:=.slice C6 p'.f6.length e6) rfl rfl rfl ?_) rfl ?_
    ·exact drew_at (set7 xr.out rfl _ _ _ _ _ _ _)
    ·unfold PastPost
     rw [hz.out]
     have hbz:=Below.drew (below7 hB.out (g:=w.heap.size + 1) (by omega) (.int .i64 p'.f0) (.string p'.f1) (.string p'.f2) (.string p'.f3) (.int .i64 p'.f4) (.slice C5 p'.f5.length e5) (.slice C6 p'.f6.length e6))
     exact ⟨D,d,C5,e5,C6,e6,rfl,Kd.C_drew (C_far7 hN.out _ _ _ _ _ _ _),hd,rp'.out.below hbz,hbz⟩
end Go.Proofs.YthhohbidjhcjeaaDoor.H
