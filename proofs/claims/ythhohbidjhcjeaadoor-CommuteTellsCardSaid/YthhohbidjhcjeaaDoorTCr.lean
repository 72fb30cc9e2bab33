/- The walk of the reference's Commute. -/
import Derived.Test.YthhohbidjhcjeaaDoorTCe
namespace Go.Proofs.YthhohbidjhcjeaaDoor.H
open Go.RowKit Go.Proofs.YthhohbidjhcjeaaDoorW.PrintWords Go.Proofs.YthhohbidjhcjeaaDoorW.PrintLast Go.Proofs.YthhohbidjhcjeaaDoorW.PrintMore
open Go.Proofs.YthhohbidjhcjeaaDoor.Q Go.Proofs.YthhohbidjhcjeaaDoor.Pl
set_option linter.unusedVariables false
theorem ret25 {tmps : Array Value} {W : World} {gx gy : Nat} {x0 x1 x2 x3 x4 x5 x6 y0 y1 y2 y3 y4 y5 y6 r : Value} (h4 : tmps[4]? = some (.pointer (some ⟨gx,0,none⟩))) (h5 : tmps[5]? = some (.pointer (some ⟨gy,0,none⟩))) (h6 : tmps[6]? = some r)
  (hx : W.heap[gx]? = some (.cells #[x0,x1,x2,x3,x4,x5,x6] 24 (0,0))) (hy : W.heap[gy]? = some (.cells #[y0,y1,y2,y3,y4,y5,y6] 24 (0,0))) :
  (results Tryd.f25 tmps).run Tryd.prog W = .ok (.tuple #[.agg #[x0,x1,x2,x3,x4,x5,x6],.agg #[y0,y1,y2,y3,y4,y5,y6],r]) W:=by
 have xc0 : W.cell? ⟨gx,0,none⟩ = some x0:=(blk_cell hx 0).trans rfl
 have xc1 : W.cell? ⟨gx,1,none⟩ = some x1:=(blk_cell hx 1).trans rfl
 have xc2 : W.cell? ⟨gx,2,none⟩ = some x2:=(blk_cell hx 2).trans rfl
 have xc3 : W.cell? ⟨gx,3,none⟩ = some x3:=(blk_cell hx 3).trans rfl
 have xc4 : W.cell? ⟨gx,4,none⟩ = some x4:=(blk_cell hx 4).trans rfl
 have xc5 : W.cell? ⟨gx,5,none⟩ = some x5:=(blk_cell hx 5).trans rfl
 have xc6 : W.cell? ⟨gx,6,none⟩ = some x6:=(blk_cell hx 6).trans rfl
 have yc0 : W.cell? ⟨gy,0,none⟩ = some y0:=(blk_cell hy 0).trans rfl
 have yc1 : W.cell? ⟨gy,1,none⟩ = some y1:=(blk_cell hy 1).trans rfl
 have yc2 : W.cell? ⟨gy,2,none⟩ = some y2:=(blk_cell hy 2).trans rfl
 have yc3 : W.cell? ⟨gy,3,none⟩ = some y3:=(blk_cell hy 3).trans rfl
 have yc4 : W.cell? ⟨gy,4,none⟩ = some y4:=(blk_cell hy 4).trans rfl
 have yc5 : W.cell? ⟨gy,5,none⟩ = some y5:=(blk_cell hy 5).trans rfl
 have yc6 : W.cell? ⟨gy,6,none⟩ = some y6:=(blk_cell hy 6).trans rfl
 simp [results,Tryd.results25,go_sem, *]
set_option maxHeartbeats 8000000 in
set_option maxRecDepth 100000 in
theorem rcomm_np (p q : S24) (A5 : Option Addr) (c5 : Nat) (A6 : Option Addr) (c6 : Nat) (B5 : Option Addr) (d5 : Nat) (B6 : Option Addr) (d6 : Nat) (w : World) (hp : Okq p) (hq : Okq q) (rp : Rd w p A5 c5 A6 c6) (rq : Rd w q B5 d5 B6 d6) (bp : primB p = false) :
  Calls Tryd.prog 25 #[.agg #[.int .i64 p.f0,.string p.f1,.string p.f2,.string p.f3,.int .i64 p.f4,.slice A5 p.f5.length c5,.slice A6 p.f6.length c6],.agg #[.int .i64 q.f0,.string q.f1,.string q.f2,.string q.f3,.int .i64 q.f4,.slice B5 q.f5.length d5,.slice B6 q.f6.length d6]] w fun e w' => e = .returned (.tuple #[.agg zeroC,.agg zeroC,.bool false]) ∧ Below w.heap.size w w':=by
 go_enter Tryd.func25,Tryd.ntmps25
 have hst:=St.start w #[.int .i64 p.f0,.string p.f1,.string p.f2,.string p.f3,.int .i64 p.f4,.slice A5 p.f5.length c5,.slice A6 p.f6.length c6] #[.int .i64 q.f0,.string q.f1,.string q.f2,.string q.f3,.int .i64 q.f4,.slice B5 q.f5.length d5,.slice B6 q.f6.length d6]
 go_wp2_with (fail)
 refine (rright_st p A5 c5 A6 c6 w _ _ _ hp rp hst).mono ?_
 rintro e w1 ⟨rfl,hst⟩
 rw [bp]
 obtain ⟨pc0,pc1,pc2,pc3,pc4,pc5,pc6⟩:=cells7 hst.p
 obtain ⟨qc0,qc1,qc2,qc3,qc4,qc5,qc6⟩:=cells7 hst.q
 obtain ⟨xc0,xc1,xc2,xc3,xc4,xc5,xc6⟩:=cells7 hst.x
 obtain ⟨yc0,yc1,yc2,yc3,yc4,yc5,yc6⟩:=cells7 hst.y
 obtain ⟨pg0,pg1,pg2,pg3,pg4,pg5,pg6⟩:=frozen7 hst.p
 obtain ⟨qg0,qg1,qg2,qg3,qg4,qg5,qg6⟩:=frozen7 hst.q
 obtain ⟨xg0,xg1,xg2,xg3,xg4,xg5,xg6⟩:=frozen7 hst.x
 obtain ⟨yg0,yg1,yg2,yg3,yg4,yg5,yg6⟩:=frozen7 hst.y
 go_wp2
 all_goals
  refine bodyPost_ret (ret25 (gx:=w.heap.size + 1 + 1) (gy:=w.heap.size + 1 + 1 + 1) rfl rfl rfl ?_ ?_) rfl ⟨rfl,?_⟩
  ·exact ((keep7 (by omega) _ _ _ _ _ _ _).trans (set7 hst.x rfl _ _ _ _ _ _ _))
  ·exact (set7 ((keep7 (by omega) _ _ _ _ _ _ _).trans hst.y) rfl _ _ _ _ _ _ _)
  ·exact (below7 (below7 hst.below (by omega) _ _ _ _ _ _ _) (by omega) _ _ _ _ _ _ _)
set_option maxHeartbeats 8000000 in
set_option maxRecDepth 100000 in
theorem rcomm_nq (p q : S24) (A5 : Option Addr) (c5 : Nat) (A6 : Option Addr) (c6 : Nat) (B5 : Option Addr) (d5 : Nat) (B6 : Option Addr) (d6 : Nat) (w : World) (hp : Okq p) (hq : Okq q) (rp : Rd w p A5 c5 A6 c6) (rq : Rd w q B5 d5 B6 d6) (bp : primB p = true) (bq : primB q = false) :
  Calls Tryd.prog 25 #[.agg #[.int .i64 p.f0,.string p.f1,.string p.f2,.string p.f3,.int .i64 p.f4,.slice A5 p.f5.length c5,.slice A6 p.f6.length c6],.agg #[.int .i64 q.f0,.string q.f1,.string q.f2,.string q.f3,.int .i64 q.f4,.slice B5 q.f5.length d5,.slice B6 q.f6.length d6]] w fun e w' => e = .returned (.tuple #[.agg zeroC,.agg zeroC,.bool false]) ∧ Below w.heap.size w w':=by
 go_enter Tryd.func25,Tryd.ntmps25
 have hst:=St.start w #[.int .i64 p.f0,.string p.f1,.string p.f2,.string p.f3,.int .i64 p.f4,.slice A5 p.f5.length c5,.slice A6 p.f6.length c6] #[.int .i64 q.f0,.string q.f1,.string q.f2,.string q.f3,.int .i64 q.f4,.slice B5 q.f5.length d5,.slice B6 q.f6.length d6]
 go_wp2_with (fail)
 refine (rright_st p A5 c5 A6 c6 w _ _ _ hp rp hst).mono ?_
 rintro e w2 ⟨rfl,hst⟩
 rw [bp]
 obtain ⟨pc0,pc1,pc2,pc3,pc4,pc5,pc6⟩:=cells7 hst.p
 obtain ⟨qc0,qc1,qc2,qc3,qc4,qc5,qc6⟩:=cells7 hst.q
 go_wp2_with (fail)
 refine (rright_st q B5 d5 B6 d6 w _ _ _ hq rq hst).mono ?_
 clear pc0 pc1 pc2 pc3 pc4 pc5 pc6 qc0 qc1 qc2 qc3 qc4 qc5 qc6
 rintro e w3 ⟨rfl,hst⟩
 rw [bq]
 obtain ⟨pc0,pc1,pc2,pc3,pc4,pc5,pc6⟩:=cells7 hst.p
 obtain ⟨qc0,qc1,qc2,qc3,qc4,qc5,qc6⟩:=cells7 hst.q
 obtain ⟨xc0,xc1,xc2,xc3,xc4,xc5,xc6⟩:=cells7 hst.x
 obtain ⟨yc0,yc1,yc2,yc3,yc4,yc5,yc6⟩:=cells7 hst.y
 obtain ⟨pg0,pg1,pg2,pg3,pg4,pg5,pg6⟩:=frozen7 hst.p
 obtain ⟨qg0,qg1,qg2,qg3,qg4,qg5,qg6⟩:=frozen7 hst.q
 obtain ⟨xg0,xg1,xg2,xg3,xg4,xg5,xg6⟩:=frozen7 hst.x
 obtain ⟨yg0,yg1,yg2,yg3,yg4,yg5,yg6⟩:=frozen7 hst.y
 go_wp2
 all_goals
  refine bodyPost_ret (ret25 (gx:=w.heap.size + 1 + 1) (gy:=w.heap.size + 1 + 1 + 1) rfl rfl rfl ?_ ?_) rfl ⟨rfl,?_⟩
  ·exact ((keep7 (by omega) _ _ _ _ _ _ _).trans (set7 hst.x rfl _ _ _ _ _ _ _))
  ·exact (set7 ((keep7 (by omega) _ _ _ _ _ _ _).trans hst.y) rfl _ _ _ _ _ _ _)
  ·exact (below7 (below7 hst.below (by omega) _ _ _ _ _ _ _) (by omega) _ _ _ _ _ _ _)
def RcPost (w : World) (a b : S24) (A5 : Option Addr) (c5 : Nat) (A6 : Option Addr) (c6 : Nat) (B5 : Option Addr) (d5 : Nat) (B6 : Option Addr) (d6 : Nat) : Bool → Bool → Bool → Ending → World → Prop
 | true,true,true,e,w' => e = .returned (.tuple #[.agg (cs a B5 d5 B6 d6),.agg (cs b A5 c5 A6 c6),.bool true]) ∧ Below w.heap.size w w'
 | _,_,_,e,w' => e = .returned (.tuple #[.agg zeroC,.agg zeroC,.bool false]) ∧ Below w.heap.size w w'
set_option maxHeartbeats 8000000 in
set_option maxRecDepth 100000 in
theorem rcomm_in (p q : S24) (A5 : Option Addr) (c5 : Nat) (A6 : Option Addr) (c6 : Nat) (B5 : Option Addr) (d5 : Nat) (B6 : Option Addr) (d6 : Nat) (w : World) (hp : Okq p) (hq : Okq q) (rp : Rd w p A5 c5 A6 c6) (rq : Rd w q B5 d5 B6 d6) (bp : primB p = true) (bq : primB q = true) (sp : p.f1.size ≤ 136) (sq : q.f1.size ≤ 136) (sq2 : q.f0 = 10 → q.f2.size ≤ 136) (b a : S24) (r x y : Bool) (hr : refStep p q = (b,a,r)) (ob : Okq b) (oa : Okq a) (rb : Rd w b A5 c5 A6 c6) (ra : Rd w a B5 d5 B6 d6) (hx : primB b = x) (hy : primB a = y) :
  Calls Tryd.prog 25 #[.agg #[.int .i64 p.f0,.string p.f1,.string p.f2,.string p.f3,.int .i64 p.f4,.slice A5 p.f5.length c5,.slice A6 p.f6.length c6],.agg #[.int .i64 q.f0,.string q.f1,.string q.f2,.string q.f3,.int .i64 q.f4,.slice B5 q.f5.length d5,.slice B6 q.f6.length d6]] w fun e w' => RcPost w a b A5 c5 A6 c6 B5 d5 B6 d6 r x y e w':=by
 replace hr:=Aside0.mk hr
 replace hx:=Aside0.mk hx
 replace hy:=Aside0.mk hy
 replace sq2:=Aside0.mk sq2
 have tp:=Aside0.mk (rt_of bp)
 have tq:=Aside0.mk (rt_of bq)
 go_enter Tryd.func25,Tryd.ntmps25
 have hst:=St.start w #[.int .i64 p.f0,.string p.f1,.string p.f2,.string p.f3,.int .i64 p.f4,.slice A5 p.f5.length c5,.slice A6 p.f6.length c6] #[.int .i64 q.f0,.string q.f1,.string q.f2,.string q.f3,.int .i64 q.f4,.slice B5 q.f5.length d5,.slice B6 q.f6.length d6]
 go_wp2_with (fail)
 refine (rright_st p A5 c5 A6 c6 w _ _ _ hp rp hst).mono ?_
 rintro e w4 ⟨rfl,hst⟩
 rw [bp]
 obtain ⟨pc0,pc1,pc2,pc3,pc4,pc5,pc6⟩:=cells7 hst.p
 obtain ⟨qc0,qc1,qc2,qc3,qc4,qc5,qc6⟩:=cells7 hst.q
 go_wp2_with (fail)
 refine (rright_st q B5 d5 B6 d6 w _ _ _ hq rq hst).mono ?_
 clear pc0 pc1 pc2 pc3 pc4 pc5 pc6 qc0 qc1 qc2 qc3 qc4 qc5 qc6
 rintro e w5 ⟨rfl,hst⟩
 rw [bq]
 obtain ⟨pc0,pc1,pc2,pc3,pc4,pc5,pc6⟩:=cells7 hst.p
 obtain ⟨qc0,qc1,qc2,qc3,qc4,qc5,qc6⟩:=cells7 hst.q
 clear bp bq
 go_upto_region 4 with (fail)
 go_cut [39] from 25 to 39 (fun v39 w' => v39 = .bool ((p.f0 == 7) && (q.f0 == 7) && (p.f1.toList == q.f1.toList)) ∧ w' = w5)
 case first =>
  cases h1 : (p.f0 == 7) with
  | false =>
   go_wp2
   go_meet
   case rel => exact ⟨by rw [h1]; rfl,rfl⟩
  | true =>
   cases h2 : (q.f0 == 7) with
   | false =>
    go_wp2
    go_meet
    case rel => exact ⟨by rw [h1,h2]; rfl,rfl⟩
   | true =>
    go_wp2
    go_meet
    case rel => exact ⟨by rw [h1,h2]; rfl,rfl⟩
 case rest =>
  obtain ⟨rfl,rfl⟩:=hcut
  go_upto_if 39 with (fail)
  go_cut [7] from 8 (fun v7 w' => v7 = .bool r ∧ Aside0 (St w (cs b A5 c5 A6 c6) (cs a B5 d5 B6 d6) w'))
  case first =>
   cases h39 : ((p.f0 == 7) && (q.f0 == 7) && (p.f1.toList == q.f1.toList)) with
   | false =>
    have n7 : ¬ (p.f0 = 7 ∧ q.f0 = 7 ∧ p.f1.toList = q.f1.toList):=fun e => by (have h39':=h39; rw [e.1,e.2.1,e.2.2] at h39'; simp at h39')
    replace n7:=Aside0.mk n7
    clear h39
    cases p10 : (p.f0 == 10) with
    | false =>
     have P10 : ¬ p.f0 = 10:=by simpa using p10
     replace P10:=Aside0.mk P10
     go_wp2_with (fail)
     refine (rchange_st p A5 c5 A6 c6 w _ _ _ rp hst).mono ?_
     clear pc0 pc1 pc2 pc3 pc4 pc5 pc6 qc0 qc1 qc2 qc3 qc4 qc5 qc6
     rintro e w6 ⟨rfl,hst⟩
     obtain ⟨pc0,pc1,pc2,pc3,pc4,pc5,pc6⟩:=cells7 hst.p
     obtain ⟨qc0,qc1,qc2,qc3,qc4,qc5,qc6⟩:=cells7 hst.q
     cases q10 : (q.f0 == 10) with
     | false =>
      have Q10 : ¬ q.f0 = 10:=by simpa using q10
      replace Q10:=Aside0.mk Q10
      cases cp : chB p with
      | false =>
       go_wp2_with (fail)
       refine (raddition_st p A5 c5 A6 c6 w _ _ _ rp hst).mono ?_
       clear pc0 pc1 pc2 pc3 pc4 pc5 pc6 qc0 qc1 qc2 qc3 qc4 qc5 qc6
       rintro e w7 ⟨rfl,hst⟩
       obtain ⟨pc0,pc1,pc2,pc3,pc4,pc5,pc6⟩:=cells7 hst.p
       obtain ⟨qc0,qc1,qc2,qc3,qc4,qc5,qc6⟩:=cells7 hst.q
       cases aP : adB p with
       | false =>
        go_wp2
        go_meet
        case rel =>
         have he : refStep p q = (p,q,p.f1.toList != q.f1.toList):=by unfold refStep; rw [if_neg n7.out,if_neg (fun e => P10.out e.1),if_neg (fun e => P10.out e.1),if_neg (fun e => Q10.out e.2),if_neg P10.out,if_neg Q10.out,if_neg (fun e => by (have h:=of_decide_eq_false aP; omega))]
         obtain ⟨rfl,rfl,rfl⟩:=prod3 (hr.out.symm.trans he)
         exact ⟨rfl,⟨hst⟩⟩
       | true =>
        go_wp2_with (fail)
        refine (raddition_st q B5 d5 B6 d6 w _ _ _ rq hst).mono ?_
        clear pc0 pc1 pc2 pc3 pc4 pc5 pc6 qc0 qc1 qc2 qc3 qc4 qc5 qc6
        rintro e w8 ⟨rfl,hst⟩
        obtain ⟨pc0,pc1,pc2,pc3,pc4,pc5,pc6⟩:=cells7 hst.p
        obtain ⟨qc0,qc1,qc2,qc3,qc4,qc5,qc6⟩:=cells7 hst.q
        cases aQ : adB q with
        | false =>
         go_wp2
         go_meet
         case rel =>
          have he : refStep p q = (p,q,p.f1.toList != q.f1.toList):=by unfold refStep; rw [if_neg n7.out,if_neg (fun e => P10.out e.1),if_neg (fun e => P10.out e.1),if_neg (fun e => Q10.out e.2),if_neg P10.out,if_neg Q10.out,if_neg (fun e => by (have h:=of_decide_eq_false aQ; omega))]
          obtain ⟨rfl,rfl,rfl⟩:=prod3 (hr.out.symm.trans he)
          exact ⟨rfl,⟨hst⟩⟩
        | true =>
         go_wp2_with (fail)
         refine (rapart2_st p.f1 q.f1 w _ _ _ hst).mono ?_
         clear pc0 pc1 pc2 pc3 pc4 pc5 pc6 qc0 qc1 qc2 qc3 qc4 qc5 qc6
         rintro e w9 ⟨rfl,hst⟩
         obtain ⟨pc0,pc1,pc2,pc3,pc4,pc5,pc6⟩:=cells7 hst.p
         obtain ⟨qc0,qc1,qc2,qc3,qc4,qc5,qc6⟩:=cells7 hst.q
         go_wp2
         go_meet
         case rel =>
          have he : refStep p q = (p,q,apartB p.f1 q.f1):=by unfold refStep; rw [if_neg n7.out,if_neg (fun e => P10.out e.1),if_neg (fun e => P10.out e.1),if_neg (fun e => Q10.out e.2),if_neg P10.out,if_neg Q10.out,if_pos ⟨of_decide_eq_true aP,of_decide_eq_true aQ⟩]
          obtain ⟨rfl,rfl,rfl⟩:=prod3 (hr.out.symm.trans he)
          exact ⟨rfl,⟨hst⟩⟩
      | true =>
       go_wp2_with (fail)
       refine (raddition_st p A5 c5 A6 c6 w _ _ _ rp hst).mono ?_
       clear pc0 pc1 pc2 pc3 pc4 pc5 pc6 qc0 qc1 qc2 qc3 qc4 qc5 qc6
       rintro e w10 ⟨rfl,hst⟩
       obtain ⟨pc0,pc1,pc2,pc3,pc4,pc5,pc6⟩:=cells7 hst.p
       obtain ⟨qc0,qc1,qc2,qc3,qc4,qc5,qc6⟩:=cells7 hst.q
       cases aP : adB p with
       | false =>
        go_wp2
        go_meet
        case rel =>
         have he : refStep p q = (p,q,p.f1.toList != q.f1.toList):=by unfold refStep; rw [if_neg n7.out,if_neg (fun e => P10.out e.1),if_neg (fun e => P10.out e.1),if_neg (fun e => Q10.out e.2),if_neg P10.out,if_neg Q10.out,if_neg (fun e => by (have h:=of_decide_eq_false aP; omega))]
         obtain ⟨rfl,rfl,rfl⟩:=prod3 (hr.out.symm.trans he)
         exact ⟨rfl,⟨hst⟩⟩
       | true =>
        go_wp2_with (fail)
        refine (raddition_st q B5 d5 B6 d6 w _ _ _ rq hst).mono ?_
        clear pc0 pc1 pc2 pc3 pc4 pc5 pc6 qc0 qc1 qc2 qc3 qc4 qc5 qc6
        rintro e w11 ⟨rfl,hst⟩
        obtain ⟨pc0,pc1,pc2,pc3,pc4,pc5,pc6⟩:=cells7 hst.p
        obtain ⟨qc0,qc1,qc2,qc3,qc4,qc5,qc6⟩:=cells7 hst.q
        cases aQ : adB q with
        | false =>
         go_wp2
         go_meet
         case rel =>
          have he : refStep p q = (p,q,p.f1.toList != q.f1.toList):=by unfold refStep; rw [if_neg n7.out,if_neg (fun e => P10.out e.1),if_neg (fun e => P10.out e.1),if_neg (fun e => Q10.out e.2),if_neg P10.out,if_neg Q10.out,if_neg (fun e => by (have h:=of_decide_eq_false aQ; omega))]
          obtain ⟨rfl,rfl,rfl⟩:=prod3 (hr.out.symm.trans he)
          exact ⟨rfl,⟨hst⟩⟩
        | true =>
         go_wp2_with (fail)
         refine (rapart2_st p.f1 q.f1 w _ _ _ hst).mono ?_
         clear pc0 pc1 pc2 pc3 pc4 pc5 pc6 qc0 qc1 qc2 qc3 qc4 qc5 qc6
         rintro e w12 ⟨rfl,hst⟩
         obtain ⟨pc0,pc1,pc2,pc3,pc4,pc5,pc6⟩:=cells7 hst.p
         obtain ⟨qc0,qc1,qc2,qc3,qc4,qc5,qc6⟩:=cells7 hst.q
         go_wp2
         go_meet
         case rel =>
          have he : refStep p q = (p,q,apartB p.f1 q.f1):=by unfold refStep; rw [if_neg n7.out,if_neg (fun e => P10.out e.1),if_neg (fun e => P10.out e.1),if_neg (fun e => Q10.out e.2),if_neg P10.out,if_neg Q10.out,if_pos ⟨of_decide_eq_true aP,of_decide_eq_true aQ⟩]
          obtain ⟨rfl,rfl,rfl⟩:=prod3 (hr.out.symm.trans he)
          exact ⟨rfl,⟨hst⟩⟩
     | true =>
      have Q10 : q.f0 = 10:=by simpa using q10
      replace Q10:=Aside0.mk Q10
      cases cp : chB p with
      | false =>
       have Cp : ¬ (7 ≤ p.f0 ∧ p.f0 ≤ 9):=chB_no cp
       replace Cp:=Aside0.mk Cp
       go_wp2_with (fail)
       refine (rapart_st q p.f1 B5 d5 B6 d6 w _ _ _ rq hst).mono ?_
       clear pc0 pc1 pc2 pc3 pc4 pc5 pc6 qc0 qc1 qc2 qc3 qc4 qc5 qc6
       rintro e w13 ⟨rfl,hst⟩
       obtain ⟨pc0,pc1,pc2,pc3,pc4,pc5,pc6⟩:=cells7 hst.p
       obtain ⟨qc0,qc1,qc2,qc3,qc4,qc5,qc6⟩:=cells7 hst.q
       go_wp2
       go_meet
       case rel =>
        have he : refStep p q = (p,q,apR q p.f1):=by unfold refStep; rw [if_neg n7.out,if_neg (fun e => P10.out e.1),if_neg (fun e => P10.out e.1),if_neg (fun e => Cp.out e.1),if_neg P10.out,if_pos Q10.out]
        obtain ⟨rfl,rfl,rfl⟩:=prod3 (hr.out.symm.trans he)
        exact ⟨rfl,⟨hst⟩⟩
      | true =>
       have Cp : 7 ≤ p.f0 ∧ p.f0 ≤ 9:=chB_yes cp
       replace Cp:=Aside0.mk Cp
       have s2:=sq2.out Q10.out
       have hs : q.f2.size + p.f1.size ≤ 140737488355328:=by omega
       clear s2
       cases iw : withinB p.f1 q.f1 with
       | false =>
        have hm : movedS p.f1 q.f1 q.f2 = (⟨#[]⟩,false):=if_neg (by rw [iw]; simp)
        replace hm:=Aside0.mk hm
        go_wp2_with (fail)
        refine (rmoved_st p.f1 q.f1 q.f2 w _ _ _ hs hst).mono ?_
        clear pc0 pc1 pc2 pc3 pc4 pc5 pc6 qc0 qc1 qc2 qc3 qc4 qc5 qc6
        rintro e w14 ⟨rfl,hst⟩
        rw [hm.out]
        obtain ⟨pc0,pc1,pc2,pc3,pc4,pc5,pc6⟩:=cells7 hst.p
        obtain ⟨qc0,qc1,qc2,qc3,qc4,qc5,qc6⟩:=cells7 hst.q
        go_wp2_with (fail)
        refine (rwithin_st p.f1 q.f2 w _ _ _ hst).mono ?_
        clear pc0 pc1 pc2 pc3 pc4 pc5 pc6 qc0 qc1 qc2 qc3 qc4 qc5 qc6
        rintro e w15 ⟨rfl,hst⟩
        obtain ⟨pc0,pc1,pc2,pc3,pc4,pc5,pc6⟩:=cells7 hst.p
        obtain ⟨qc0,qc1,qc2,qc3,qc4,qc5,qc6⟩:=cells7 hst.q
        go_wp2
        go_meet
        case rel =>
         have he : refStep p q = (p,q,!withinB p.f1 q.f2):=by unfold refStep; rw [if_neg n7.out,if_neg (fun e => P10.out e.1),if_neg (fun e => P10.out e.1),if_pos ⟨Cp.out,Q10.out⟩]; rw [carry_no iw]
         obtain ⟨rfl,rfl,rfl⟩:=prod3 (hr.out.symm.trans he)
         exact ⟨rfl,⟨hst⟩⟩
       | true =>
        have hm : movedS p.f1 q.f1 q.f2 = (mv p.f1 q.f1 q.f2,true):=if_pos iw
        replace hm:=Aside0.mk hm
        go_wp2_with (fail)
        refine (rmoved_st p.f1 q.f1 q.f2 w _ _ _ hs hst).mono ?_
        clear pc0 pc1 pc2 pc3 pc4 pc5 pc6 qc0 qc1 qc2 qc3 qc4 qc5 qc6
        rintro e w16 ⟨rfl,hst⟩
        rw [hm.out]
        obtain ⟨pc0,pc1,pc2,pc3,pc4,pc5,pc6⟩:=cells7 hst.p
        obtain ⟨pf0,pf1,pf2,pf3,pf4,pf5,pf6⟩:=frozen7 hst.p
        obtain ⟨qc0,qc1,qc2,qc3,qc4,qc5,qc6⟩:=cells7 hst.q
        obtain ⟨qf0,qf1,qf2,qf3,qf4,qf5,qf6⟩:=frozen7 hst.q
        go_wp2
        go_meet
        case rel =>
         have he : refStep p q = ({ p with f1:=mv p.f1 q.f1 q.f2 },q,true):=by unfold refStep; rw [if_neg n7.out,if_neg (fun e => P10.out e.1),if_neg (fun e => P10.out e.1),if_pos ⟨Cp.out,Q10.out⟩]; rw [carry_yes iw]
         obtain ⟨rfl,rfl,rfl⟩:=prod3 (hr.out.symm.trans he)
         exact ⟨rfl,⟨hst.setp1 _⟩⟩
    | true =>
     have P10 : p.f0 = 10:=by simpa using p10
     replace P10:=Aside0.mk P10
     cases q10 : (q.f0 == 10) with
     | false =>
      have Q10 : ¬ q.f0 = 10:=by simpa using q10
      replace Q10:=Aside0.mk Q10
      go_wp2_with (fail)
      refine (rchange_st q B5 d5 B6 d6 w _ _ _ rq hst).mono ?_
      clear pc0 pc1 pc2 pc3 pc4 pc5 pc6 qc0 qc1 qc2 qc3 qc4 qc5 qc6
      rintro e w17 ⟨rfl,hst⟩
      obtain ⟨pc0,pc1,pc2,pc3,pc4,pc5,pc6⟩:=cells7 hst.p
      obtain ⟨qc0,qc1,qc2,qc3,qc4,qc5,qc6⟩:=cells7 hst.q
      cases cq : chB q with
      | false =>
       have Cq : ¬ (7 ≤ q.f0 ∧ q.f0 ≤ 9):=chB_no cq
       replace Cq:=Aside0.mk Cq
       have cp : chB p = false:=chB_ten P10.out
       go_wp2_with (fail)
       refine (rchange_st p A5 c5 A6 c6 w _ _ _ rp hst).mono ?_
       clear pc0 pc1 pc2 pc3 pc4 pc5 pc6 qc0 qc1 qc2 qc3 qc4 qc5 qc6
       rintro e w18 ⟨rfl,hst⟩
       rw [cp]
       obtain ⟨pc0,pc1,pc2,pc3,pc4,pc5,pc6⟩:=cells7 hst.p
       obtain ⟨qc0,qc1,qc2,qc3,qc4,qc5,qc6⟩:=cells7 hst.q
       go_wp2_with (fail)
       refine (rapart_st p q.f1 A5 c5 A6 c6 w _ _ _ rp hst).mono ?_
       clear pc0 pc1 pc2 pc3 pc4 pc5 pc6 qc0 qc1 qc2 qc3 qc4 qc5 qc6
       rintro e w19 ⟨rfl,hst⟩
       obtain ⟨pc0,pc1,pc2,pc3,pc4,pc5,pc6⟩:=cells7 hst.p
       obtain ⟨qc0,qc1,qc2,qc3,qc4,qc5,qc6⟩:=cells7 hst.q
       go_wp2
       go_meet
       case rel =>
        have he : refStep p q = (p,q,apR p q.f1):=by unfold refStep; rw [if_neg n7.out,if_neg (fun e => Q10.out e.2),if_neg (fun e => Cq.out e.2),if_neg (fun e => Q10.out e.2),if_pos P10.out]
        obtain ⟨rfl,rfl,rfl⟩:=prod3 (hr.out.symm.trans he)
        exact ⟨rfl,⟨hst⟩⟩
      | true =>
       have Cq : 7 ≤ q.f0 ∧ q.f0 ≤ 9:=chB_yes cq
       replace Cq:=Aside0.mk Cq
       have hs : p.f1.size + q.f1.size ≤ 140737488355328:=by omega
       cases iw : withinB q.f1 p.f2 with
       | false =>
        have hm : movedS q.f1 p.f2 p.f1 = (⟨#[]⟩,false):=if_neg (by rw [iw]; simp)
        replace hm:=Aside0.mk hm
        go_wp2_with (fail)
        refine (rmoved_st q.f1 p.f2 p.f1 w _ _ _ hs hst).mono ?_
        clear pc0 pc1 pc2 pc3 pc4 pc5 pc6 qc0 qc1 qc2 qc3 qc4 qc5 qc6
        rintro e w20 ⟨rfl,hst⟩
        rw [hm.out]
        obtain ⟨pc0,pc1,pc2,pc3,pc4,pc5,pc6⟩:=cells7 hst.p
        obtain ⟨qc0,qc1,qc2,qc3,qc4,qc5,qc6⟩:=cells7 hst.q
        go_wp2_with (fail)
        refine (rwithin_st q.f1 p.f1 w _ _ _ hst).mono ?_
        clear pc0 pc1 pc2 pc3 pc4 pc5 pc6 qc0 qc1 qc2 qc3 qc4 qc5 qc6
        rintro e w21 ⟨rfl,hst⟩
        obtain ⟨pc0,pc1,pc2,pc3,pc4,pc5,pc6⟩:=cells7 hst.p
        obtain ⟨qc0,qc1,qc2,qc3,qc4,qc5,qc6⟩:=cells7 hst.q
        go_wp2
        go_meet
        case rel =>
         have he : refStep p q = (p,q,!withinB q.f1 p.f1):=by unfold refStep; rw [if_neg n7.out,if_neg (fun e => Q10.out e.2),if_pos ⟨P10.out,Cq.out.1,Cq.out.2⟩]; rw [carry_no iw]
         obtain ⟨rfl,rfl,rfl⟩:=prod3 (hr.out.symm.trans he)
         exact ⟨rfl,⟨hst⟩⟩
       | true =>
        have hm : movedS q.f1 p.f2 p.f1 = (mv q.f1 p.f2 p.f1,true):=if_pos iw
        replace hm:=Aside0.mk hm
        go_wp2_with (fail)
        refine (rmoved_st q.f1 p.f2 p.f1 w _ _ _ hs hst).mono ?_
        clear pc0 pc1 pc2 pc3 pc4 pc5 pc6 qc0 qc1 qc2 qc3 qc4 qc5 qc6
        rintro e w22 ⟨rfl,hst⟩
        rw [hm.out]
        obtain ⟨pc0,pc1,pc2,pc3,pc4,pc5,pc6⟩:=cells7 hst.p
        obtain ⟨pf0,pf1,pf2,pf3,pf4,pf5,pf6⟩:=frozen7 hst.p
        obtain ⟨qc0,qc1,qc2,qc3,qc4,qc5,qc6⟩:=cells7 hst.q
        obtain ⟨qf0,qf1,qf2,qf3,qf4,qf5,qf6⟩:=frozen7 hst.q
        go_wp2
        go_meet
        case rel =>
         have he : refStep p q = (p,{ q with f1:=mv q.f1 p.f2 p.f1 },true):=by unfold refStep; rw [if_neg n7.out,if_neg (fun e => Q10.out e.2),if_pos ⟨P10.out,Cq.out.1,Cq.out.2⟩]; rw [carry_yes iw]
         obtain ⟨rfl,rfl,rfl⟩:=prod3 (hr.out.symm.trans he)
         exact ⟨rfl,⟨hst.setq1 _⟩⟩
     | true =>
      have Q10 : q.f0 = 10:=by simpa using q10
      replace Q10:=Aside0.mk Q10
      go_wp2_with (fail)
      refine (rapart_st p q.f1 A5 c5 A6 c6 w _ _ _ rp hst).mono ?_
      clear pc0 pc1 pc2 pc3 pc4 pc5 pc6 qc0 qc1 qc2 qc3 qc4 qc5 qc6
      rintro e w23 ⟨rfl,hst⟩
      obtain ⟨pc0,pc1,pc2,pc3,pc4,pc5,pc6⟩:=cells7 hst.p
      obtain ⟨qc0,qc1,qc2,qc3,qc4,qc5,qc6⟩:=cells7 hst.q
      cases va : apR p q.f1 with
      | false =>
       go_wp2
       go_meet
       case rel =>
        have he : refStep p q = (p,q,false):=by unfold refStep; rw [if_neg n7.out,if_pos ⟨P10.out,Q10.out⟩,va]; rfl
        obtain ⟨rfl,rfl,rfl⟩:=prod3 (hr.out.symm.trans he)
        exact ⟨rfl,⟨hst⟩⟩
      | true =>
       go_wp2_with (fail)
       refine (rapart_st p q.f2 A5 c5 A6 c6 w _ _ _ rp hst).mono ?_
       clear pc0 pc1 pc2 pc3 pc4 pc5 pc6 qc0 qc1 qc2 qc3 qc4 qc5 qc6
       rintro e w24 ⟨rfl,hst⟩
       obtain ⟨pc0,pc1,pc2,pc3,pc4,pc5,pc6⟩:=cells7 hst.p
       obtain ⟨qc0,qc1,qc2,qc3,qc4,qc5,qc6⟩:=cells7 hst.q
       go_wp2
       go_meet
       case rel =>
        have he : refStep p q = (p,q,apR p q.f2):=by unfold refStep; rw [if_neg n7.out,if_pos ⟨P10.out,Q10.out⟩,va]; rfl
        obtain ⟨rfl,rfl,rfl⟩:=prod3 (hr.out.symm.trans he)
        exact ⟨rfl,⟨hst⟩⟩
   | true =>
    go_wp2_with (fail)
    refine (lines_ref p q A5 c5 A6 c6 B5 d5 B6 d6 _).mono ?_
    clear pc0 pc1 pc2 pc3 pc4 pc5 pc6 qc0 qc1 qc2 qc3 qc4 qc5 qc6
    rintro e w25 ⟨rfl,hb⟩
    replace hst:=hst.later hb
    clear hb
    have hz : w.heap.size + 1 + 1 + 1 < w25.heap.size:=blk_lt hst.y
    obtain ⟨pc0,pc1,pc2,pc3,pc4,pc5,pc6⟩:=cells7 hst.p
    obtain ⟨pd0,pd1,pd2,pd3,pd4,pd5,pd6⟩:=deep2 hst.p
    obtain ⟨pe0,pe1,pe2,pe3,pe4,pe5,pe6⟩:=fdeep2 hst.p
    obtain ⟨pf0,pf1,pf2,pf3,pf4,pf5,pf6⟩:=frozen7 hst.p
    obtain ⟨qc0,qc1,qc2,qc3,qc4,qc5,qc6⟩:=cells7 hst.q
    obtain ⟨qd0,qd1,qd2,qd3,qd4,qd5,qd6⟩:=deep2 hst.q
    obtain ⟨qe0,qe1,qe2,qe3,qe4,qe5,qe6⟩:=fdeep2 hst.q
    obtain ⟨qf0,qf1,qf2,qf3,qf4,qf5,qf6⟩:=frozen7 hst.q
    have h7 : p.f0 = 7 ∧ q.f0 = 7 ∧ p.f1.toList = q.f1.toList:=by simpa [Bool.and_eq_true,and_assoc] using h39
    replace h7:=Aside0.mk h7
    go_wp2
    go_meet
    case rel =>
     have he : refStep p q = ((refLines p q).2.1,(refLines p q).1,(refLines p q).2.2):=by unfold refStep; rw [if_pos h7.out]
     obtain ⟨rfl,rfl,rfl⟩:=prod3 (hr.out.symm.trans he)
     exact ⟨rfl,⟨(((hst.alloc _).alloc _).setq rfl _ _ _ _ _ _ _).setp rfl _ _ _ _ _ _ _⟩⟩
  case rest =>
   obtain ⟨rfl,hS⟩:=hcut
   have hst:=hS.out
   clear hS
   cases r with
   | false =>
    obtain ⟨pc0,pc1,pc2,pc3,pc4,pc5,pc6⟩:=cells7 hst.p
    obtain ⟨qc0,qc1,qc2,qc3,qc4,qc5,qc6⟩:=cells7 hst.q
    obtain ⟨xc0,xc1,xc2,xc3,xc4,xc5,xc6⟩:=cells7 hst.x
    obtain ⟨yc0,yc1,yc2,yc3,yc4,yc5,yc6⟩:=cells7 hst.y
    obtain ⟨pg0,pg1,pg2,pg3,pg4,pg5,pg6⟩:=frozen7 hst.p
    obtain ⟨qg0,qg1,qg2,qg3,qg4,qg5,qg6⟩:=frozen7 hst.q
    obtain ⟨xg0,xg1,xg2,xg3,xg4,xg5,xg6⟩:=frozen7 hst.x
    obtain ⟨yg0,yg1,yg2,yg3,yg4,yg5,yg6⟩:=frozen7 hst.y
    go_wp2
    all_goals
     refine bodyPost_ret (ret25 (gx:=w.heap.size + 1 + 1) (gy:=w.heap.size + 1 + 1 + 1) rfl rfl rfl ?_ ?_) rfl ⟨rfl,?_⟩
     ·exact ((keep7 (by omega) _ _ _ _ _ _ _).trans (set7 hst.x rfl _ _ _ _ _ _ _))
     ·exact (set7 ((keep7 (by omega) _ _ _ _ _ _ _).trans hst.y) rfl _ _ _ _ _ _ _)
     ·exact (below7 (below7 hst.below (by omega) _ _ _ _ _ _ _) (by omega) _ _ _ _ _ _ _)
   | true =>
    obtain ⟨pc0,pc1,pc2,pc3,pc4,pc5,pc6⟩:=cells7 hst.p
    obtain ⟨qc0,qc1,qc2,qc3,qc4,qc5,qc6⟩:=cells7 hst.q
    go_wp2_with (fail)
    refine (rright_st b A5 c5 A6 c6 w _ _ _ ob rb hst).mono ?_
    clear pc0 pc1 pc2 pc3 pc4 pc5 pc6 qc0 qc1 qc2 qc3 qc4 qc5 qc6
    rintro e w26 ⟨rfl,hst⟩
    rw [hx.out]
    obtain ⟨pc0,pc1,pc2,pc3,pc4,pc5,pc6⟩:=cells7 hst.p
    obtain ⟨qc0,qc1,qc2,qc3,qc4,qc5,qc6⟩:=cells7 hst.q
    cases x with
    | false =>
     obtain ⟨xc0,xc1,xc2,xc3,xc4,xc5,xc6⟩:=cells7 hst.x
     obtain ⟨yc0,yc1,yc2,yc3,yc4,yc5,yc6⟩:=cells7 hst.y
     obtain ⟨pg0,pg1,pg2,pg3,pg4,pg5,pg6⟩:=frozen7 hst.p
     obtain ⟨qg0,qg1,qg2,qg3,qg4,qg5,qg6⟩:=frozen7 hst.q
     obtain ⟨xg0,xg1,xg2,xg3,xg4,xg5,xg6⟩:=frozen7 hst.x
     obtain ⟨yg0,yg1,yg2,yg3,yg4,yg5,yg6⟩:=frozen7 hst.y
     go_wp2
     all_goals
      refine bodyPost_ret (ret25 (gx:=w.heap.size + 1 + 1) (gy:=w.heap.size + 1 + 1 + 1) rfl rfl rfl ?_ ?_) rfl ⟨rfl,?_⟩
      ·exact ((keep7 (by omega) _ _ _ _ _ _ _).trans (set7 hst.x rfl _ _ _ _ _ _ _))
      ·exact (set7 ((keep7 (by omega) _ _ _ _ _ _ _).trans hst.y) rfl _ _ _ _ _ _ _)
      ·exact (below7 (below7 hst.below (by omega) _ _ _ _ _ _ _) (by omega) _ _ _ _ _ _ _)
    | true =>
     go_wp2_with (fail)
     refine (rright_st a B5 d5 B6 d6 w _ _ _ oa ra hst).mono ?_
     clear pc0 pc1 pc2 pc3 pc4 pc5 pc6 qc0 qc1 qc2 qc3 qc4 qc5 qc6
     rintro e w27 ⟨rfl,hst⟩
     rw [hy.out]
     obtain ⟨pc0,pc1,pc2,pc3,pc4,pc5,pc6⟩:=cells7 hst.p
     obtain ⟨qc0,qc1,qc2,qc3,qc4,qc5,qc6⟩:=cells7 hst.q
     cases y with
     | false =>
      obtain ⟨xc0,xc1,xc2,xc3,xc4,xc5,xc6⟩:=cells7 hst.x
      obtain ⟨yc0,yc1,yc2,yc3,yc4,yc5,yc6⟩:=cells7 hst.y
      obtain ⟨pg0,pg1,pg2,pg3,pg4,pg5,pg6⟩:=frozen7 hst.p
      obtain ⟨qg0,qg1,qg2,qg3,qg4,qg5,qg6⟩:=frozen7 hst.q
      obtain ⟨xg0,xg1,xg2,xg3,xg4,xg5,xg6⟩:=frozen7 hst.x
      obtain ⟨yg0,yg1,yg2,yg3,yg4,yg5,yg6⟩:=frozen7 hst.y
      go_wp2
      all_goals
       refine bodyPost_ret (ret25 (gx:=w.heap.size + 1 + 1) (gy:=w.heap.size + 1 + 1 + 1) rfl rfl rfl ?_ ?_) rfl ⟨rfl,?_⟩
       ·exact ((keep7 (by omega) _ _ _ _ _ _ _).trans (set7 hst.x rfl _ _ _ _ _ _ _))
       ·exact (set7 ((keep7 (by omega) _ _ _ _ _ _ _).trans hst.y) rfl _ _ _ _ _ _ _)
       ·exact (below7 (below7 hst.below (by omega) _ _ _ _ _ _ _) (by omega) _ _ _ _ _ _ _)
     | true =>
      obtain ⟨xc0,xc1,xc2,xc3,xc4,xc5,xc6⟩:=cells7 hst.x
      obtain ⟨yc0,yc1,yc2,yc3,yc4,yc5,yc6⟩:=cells7 hst.y
      obtain ⟨pg0,pg1,pg2,pg3,pg4,pg5,pg6⟩:=frozen7 hst.p
      obtain ⟨qg0,qg1,qg2,qg3,qg4,qg5,qg6⟩:=frozen7 hst.q
      obtain ⟨xg0,xg1,xg2,xg3,xg4,xg5,xg6⟩:=frozen7 hst.x
      obtain ⟨yg0,yg1,yg2,yg3,yg4,yg5,yg6⟩:=frozen7 hst.y
      go_wp2
      all_goals go_region
      all_goals go_wp2
      all_goals
       refine bodyPost_ret (ret25 (gx:=w.heap.size + 1 + 1) (gy:=w.heap.size + 1 + 1 + 1) rfl rfl rfl ?_ ?_) rfl ⟨rfl,?_⟩
       ·exact drew_at ((keep7 (by omega) _ _ _ _ _ _ _).trans (set7 hst.x rfl _ _ _ _ _ _ _))
       ·exact drew_at (set7 ((keep7 (by omega) _ _ _ _ _ _ _).trans hst.y) rfl _ _ _ _ _ _ _)
       ·exact Below.drew (below7 (below7 hst.below (by omega) _ _ _ _ _ _ _) (by omega) _ _ _ _ _ _ _)
end Go.Proofs.YthhohbidjhcjeaaDoor.H
