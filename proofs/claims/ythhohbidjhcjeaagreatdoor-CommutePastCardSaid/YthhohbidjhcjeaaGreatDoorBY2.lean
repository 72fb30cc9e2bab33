/- Plain laws: two patches that can be commuted make the same tree the other way about (or the tree is full); so one that passes several. -/
import Derived.Test.YthhohbidjhcjeaaGreatDoorBY1
import Derived.Test.YthhohbidjhcjeaaGreatDoorBM3
import Derived.Test.YthhohbidjhcjeaaGreatDoorBM5
import Derived.Test.YthhohbidjhcjeaaGreatDoorBM6
namespace Go.Proofs.YthhohbidjhcjeaaGreatDoor.H
open Go.RowKit Go.Proofs.YthhohbidjhcjeaaGreatDoorW.PrintWords Go.Proofs.YthhohbidjhcjeaaGreatDoorW.PrintLast Go.Proofs.YthhohbidjhcjeaaGreatDoorW.PrintMore
open Go.Proofs.YthhohbidjhcjeaaGreatDoor.Q Go.Proofs.YthhohbidjhcjeaaGreatDoor.Pl

theorem row0 : ∀ W,(Instr.index 94 (.agg rulesV) (.int .i64 0)).run Tryz.prog W = .ok (.agg #[.func (.func 119) #[] #[],.func (.func 120) #[] #[],.func (.func 119) #[] #[]]) W:=fun _ => by kernel_rfl
theorem row00 : ∀ W,(Instr.index 93 (.agg #[.func (.func 119) #[] #[],.func (.func 120) #[] #[],.func (.func 119) #[] #[]]) (.int .i64 0)).run Tryz.prog W = .ok (.func (.func 119) #[] #[]) W:=fun _ => by kernel_rfl
theorem row01 : ∀ W,(Instr.index 93 (.agg #[.func (.func 119) #[] #[],.func (.func 120) #[] #[],.func (.func 119) #[] #[]]) (.int .i64 1)).run Tryz.prog W = .ok (.func (.func 120) #[] #[]) W:=fun _ => by kernel_rfl
theorem row02 : ∀ W,(Instr.index 93 (.agg #[.func (.func 119) #[] #[],.func (.func 120) #[] #[],.func (.func 119) #[] #[]]) (.int .i64 2)).run Tryz.prog W = .ok (.func (.func 119) #[] #[]) W:=fun _ => by kernel_rfl
theorem row1 : ∀ W,(Instr.index 94 (.agg rulesV) (.int .i64 1)).run Tryz.prog W = .ok (.agg #[.func (.func 120) #[] #[],.func (.func 121) #[] #[],.func (.func 122) #[] #[]]) W:=fun _ => by kernel_rfl
theorem row10 : ∀ W,(Instr.index 93 (.agg #[.func (.func 120) #[] #[],.func (.func 121) #[] #[],.func (.func 122) #[] #[]]) (.int .i64 0)).run Tryz.prog W = .ok (.func (.func 120) #[] #[]) W:=fun _ => by kernel_rfl
theorem row11 : ∀ W,(Instr.index 93 (.agg #[.func (.func 120) #[] #[],.func (.func 121) #[] #[],.func (.func 122) #[] #[]]) (.int .i64 1)).run Tryz.prog W = .ok (.func (.func 121) #[] #[]) W:=fun _ => by kernel_rfl
theorem row12 : ∀ W,(Instr.index 93 (.agg #[.func (.func 120) #[] #[],.func (.func 121) #[] #[],.func (.func 122) #[] #[]]) (.int .i64 2)).run Tryz.prog W = .ok (.func (.func 122) #[] #[]) W:=fun _ => by kernel_rfl
theorem row2 : ∀ W,(Instr.index 94 (.agg rulesV) (.int .i64 2)).run Tryz.prog W = .ok (.agg #[.func (.func 119) #[] #[],.func (.func 124) #[] #[],.func (.func 119) #[] #[]]) W:=fun _ => by kernel_rfl
theorem row20 : ∀ W,(Instr.index 93 (.agg #[.func (.func 119) #[] #[],.func (.func 124) #[] #[],.func (.func 119) #[] #[]]) (.int .i64 0)).run Tryz.prog W = .ok (.func (.func 119) #[] #[]) W:=fun _ => by kernel_rfl
theorem row21 : ∀ W,(Instr.index 93 (.agg #[.func (.func 119) #[] #[],.func (.func 124) #[] #[],.func (.func 119) #[] #[]]) (.int .i64 1)).run Tryz.prog W = .ok (.func (.func 124) #[] #[]) W:=fun _ => by kernel_rfl
theorem row22 : ∀ W,(Instr.index 93 (.agg #[.func (.func 119) #[] #[],.func (.func 124) #[] #[],.func (.func 119) #[] #[]]) (.int .i64 2)).run Tryz.prog W = .ok (.func (.func 119) #[] #[]) W:=fun _ => by kernel_rfl
theorem class2 {x : S25} (h : x.f0 = 10) : classS x = 2:=if_pos h
theorem class1 {x : S25} (h : ¬ x.f0 = 10) (h7 : 7 ≤ x.f0) : classS x = 1:=(if_neg h).trans (if_pos h7)
theorem class0 {x : S25} (h : ¬ x.f0 = 10) (h7 : ¬ 7 ≤ x.f0) : classS x = 0:=(if_neg h).trans (if_neg h7)
/-- The function that the table gives. -/
structure Fn (n : Nat) (p q : S25) : Prop where
 en : ∀ args w,(callFunc n args).run Tryz.prog w = .ok (.enter n args) w
 at' : ∃ row : Array Value,(∀ W,(Instr.index 94 (.agg rulesV) (.int .i64 (classS p))).run Tryz.prog W = .ok (.agg row) W) ∧ ∀ W,(Instr.index 93 (.agg row) (.int .i64 (classS q))).run Tryz.prog W = .ok (.func (.func n) #[] #[]) W
theorem rule_fn (p q : S25) (A5 : Option Addr) (c5 : Nat) (A6 : Option Addr) (c6 : Nat) (B5 : Option Addr) (d5 : Nat) (B6 : Option Addr) (d6 : Nat) (w : World) (bp : primB p = true) (bq : primB q = true) :
  ∃ n,Fn n p q ∧ ∀ W,St w (cs p A5 c5 A6 c6) (cs q B5 d5 B6 d6) W → Calls Tryz.prog n #[.pointer (some ⟨w.heap.size,0,none⟩),.pointer (some ⟨w.heap.size + 1,0,none⟩)] W fun e W' => e = .returned (.bool (ruleS p q).2.2) ∧ St w (cs (ruleS p q).1 A5 c5 A6 c6) (cs (ruleS p q).2.1 B5 d5 B6 d6) W':=by
 have s1:=prim_f1 bp
 have s2:=prim_f1 bq
 by_cases cp : p.f0 = 10
 ·by_cases cq : q.f0 = 10
  ·have hr : ruleS p q = (p,q,apartL (pathsS p) (pathsS q)):=by unfold ruleS; rw [if_pos cp,if_pos cq]
   rw [hr]
   refine ⟨119,⟨fun args w => by go_simp,#[.func (.func 119) #[] #[],.func (.func 124) #[] #[],.func (.func 119) #[] #[]],by rw [class2 cp]; exact row2,by rw [class2 cq]; exact row22⟩,fun W h => ?_⟩
   refine (still_calls p q A5 c5 A6 c6 B5 d5 B6 d6 _ _ W h.p h.q).mono ?_
   rintro e W' ⟨rfl,hb⟩
   exact ⟨rfl,h.later hb⟩
  ·by_cases dq : 7 ≤ q.f0
   ·have hr : ruleS p q = (p,{ q with f1:=(carryS q.f1 p.f2 p.f1).1 },(carryS q.f1 p.f2 p.f1).2):=by unfold ruleS; rw [if_pos cp,if_neg cq,if_pos dq]
    rw [hr]
    refine ⟨124,⟨fun args w => by go_simp,#[.func (.func 119) #[] #[],.func (.func 124) #[] #[],.func (.func 119) #[] #[]],by rw [class2 cp]; exact row2,by rw [class1 cq dq]; exact row21⟩,fun W h => ?_⟩
    refine (rule2_calls p q A5 c5 A6 c6 B5 d5 B6 d6 _ _ (by omega) W h.p h.q (by omega)).mono ?_
    rintro e W' ⟨rfl,hb⟩
    exact ⟨rfl,h.left hb⟩
   ·have hr : ruleS p q = (p,q,apartL (pathsS p) (pathsS q)):=by unfold ruleS; rw [if_pos cp,if_neg cq,if_neg dq]
    rw [hr]
    refine ⟨119,⟨fun args w => by go_simp,#[.func (.func 119) #[] #[],.func (.func 124) #[] #[],.func (.func 119) #[] #[]],by rw [class2 cp]; exact row2,by rw [class0 cq dq]; exact row20⟩,fun W h => ?_⟩
    refine (still_calls p q A5 c5 A6 c6 B5 d5 B6 d6 _ _ W h.p h.q).mono ?_
    rintro e W' ⟨rfl,hb⟩
    exact ⟨rfl,h.later hb⟩
 ·by_cases dp : 7 ≤ p.f0
  ·by_cases cq : q.f0 = 10
   ·have hr : ruleS p q = ({ p with f1:=(carryS p.f1 q.f1 q.f2).1 },q,(carryS p.f1 q.f1 q.f2).2):=by unfold ruleS; rw [if_neg cp,if_pos dp,if_pos cq]
    rw [hr]
    refine ⟨122,⟨fun args w => by go_simp,#[.func (.func 120) #[] #[],.func (.func 121) #[] #[],.func (.func 122) #[] #[]],by rw [class1 cp dp]; exact row1,by rw [class2 cq]; exact row12⟩,fun W h => ?_⟩
    refine (rule1_calls p q A5 c5 A6 c6 B5 d5 B6 d6 _ _ (by omega) W h.p h.q (by have:=prim_f2 bq cq; omega)).mono ?_
    rintro e W' ⟨rfl,hb⟩
    exact ⟨rfl,h.left hb⟩
   ·by_cases dq : 7 ≤ q.f0
    ·have hr : ruleS p q = bothS p q:=by unfold ruleS; rw [if_neg cp,if_pos dp,if_neg cq,if_pos dq]
     rw [hr]
     refine ⟨121,⟨fun args w => by go_simp,#[.func (.func 120) #[] #[],.func (.func 121) #[] #[],.func (.func 122) #[] #[]],by rw [class1 cp dp]; exact row1,by rw [class1 cq dq]; exact row11⟩,fun W h => ?_⟩
     refine (both_calls p q A5 c5 A6 c6 B5 d5 B6 d6 _ _ (by omega) W h.p h.q).mono ?_
     rintro e W' ⟨rfl,hb⟩
     exact ⟨rfl,h.left hb⟩
    ·have hr : ruleS p q = (p,q,p.f1.toList != q.f1.toList):=by unfold ruleS; rw [if_neg cp,if_pos dp,if_neg cq,if_neg dq]
     rw [hr]
     refine ⟨120,⟨fun args w => by go_simp,#[.func (.func 120) #[] #[],.func (.func 121) #[] #[],.func (.func 122) #[] #[]],by rw [class1 cp dp]; exact row1,by rw [class0 cq dq]; exact row10⟩,fun W h => ?_⟩
     refine (beside_calls p q A5 c5 A6 c6 B5 d5 B6 d6 _ _ W h.p h.q).mono ?_
     rintro e W' ⟨rfl,hb⟩
     exact ⟨rfl,h.later hb⟩
  ·by_cases cq : q.f0 = 10
   ·have hr : ruleS p q = (p,q,apartL (pathsS p) (pathsS q)):=by unfold ruleS; rw [if_neg cp,if_neg dp,if_pos cq]
    rw [hr]
    refine ⟨119,⟨fun args w => by go_simp,#[.func (.func 119) #[] #[],.func (.func 120) #[] #[],.func (.func 119) #[] #[]],by rw [class0 cp dp]; exact row0,by rw [class2 cq]; exact row02⟩,fun W h => ?_⟩
    refine (still_calls p q A5 c5 A6 c6 B5 d5 B6 d6 _ _ W h.p h.q).mono ?_
    rintro e W' ⟨rfl,hb⟩
    exact ⟨rfl,h.later hb⟩
   ·by_cases dq : 7 ≤ q.f0
    ·have hr : ruleS p q = (p,q,p.f1.toList != q.f1.toList):=by unfold ruleS; rw [if_neg cp,if_neg dp,if_neg cq,if_pos dq]
     rw [hr]
     refine ⟨120,⟨fun args w => by go_simp,#[.func (.func 119) #[] #[],.func (.func 120) #[] #[],.func (.func 119) #[] #[]],by rw [class0 cp dp]; exact row0,by rw [class1 cq dq]; exact row01⟩,fun W h => ?_⟩
     refine (beside_calls p q A5 c5 A6 c6 B5 d5 B6 d6 _ _ W h.p h.q).mono ?_
     rintro e W' ⟨rfl,hb⟩
     exact ⟨rfl,h.later hb⟩
    ·have hr : ruleS p q = (p,q,apartL (pathsS p) (pathsS q)):=by unfold ruleS; rw [if_neg cp,if_neg dp,if_neg cq,if_neg dq]
     rw [hr]
     refine ⟨119,⟨fun args w => by go_simp,#[.func (.func 119) #[] #[],.func (.func 120) #[] #[],.func (.func 119) #[] #[]],by rw [class0 cp dp]; exact row0,by rw [class0 cq dq]; exact row00⟩,fun W h => ?_⟩
     refine (still_calls p q A5 c5 A6 c6 B5 d5 B6 d6 _ _ W h.p h.q).mono ?_
     rintro e W' ⟨rfl,hb⟩
     exact ⟨rfl,h.later hb⟩
theorem Rd.of {w : World} {x y : S25} {A5 : Option Addr} {c5 : Nat} {A6 : Option Addr} {c6 : Nat} (h : Rd w x A5 c5 A6 c6) (h5 : y.f5 = x.f5) (h6 : y.f6 = x.f6) : Rd w y A5 c5 A6 c6:=by
 obtain ⟨a,b,c,d⟩:=h
 exact ⟨by rw [h5]; exact a,by rw [h5]; exact b,by rw [h6]; exact c,by rw [h6]; exact d⟩
/-- Commute, of two patches whose cells are known. -/
theorem comm_at (p q : S25) (A5 : Option Addr) (c5 : Nat) (A6 : Option Addr) (c6 : Nat) (B5 : Option Addr) (d5 : Nat) (B6 : Option Addr) (d6 : Nat) (w : World) (hp : Okp p) (hq : Okp q) (rp : Rd w p A5 c5 A6 c6) (rq : Rd w q B5 d5 B6 d6) :
  Calls Tryz.prog 42 #[.agg (cs p A5 c5 A6 c6),.agg (cs q B5 d5 B6 d6)] w fun e w' => ((comm p q = (z25,z25,false) ∧ e = .returned (.tuple #[.agg zeroC,.agg zeroC,.bool false])) ∨ ∃ a b,Yes p q a b ∧ e = .returned (.tuple #[.agg (cs a B5 d5 B6 d6),.agg (cs b A5 c5 A6 c6),.bool true])) ∧ Below w.heap.size w w':=by
 cases bp : primB p with
 | false =>
  refine (comm_np p q A5 c5 A6 c6 B5 d5 B6 d6 w hp rp bp).mono ?_
  rintro e w' ⟨rfl,hb⟩
  exact ⟨.inl ⟨if_neg (fun h => by rw [h.1] at bp; cases bp),rfl⟩,hb⟩
 | true =>
  cases bq : primB q with
  | false =>
   refine (comm_nq p q A5 c5 A6 c6 B5 d5 B6 d6 w hp rp bp hq rq bq).mono ?_
   rintro e w' ⟨rfl,hb⟩
   exact ⟨.inl ⟨if_neg (fun h => by rw [h.2.1] at bq; cases bq),rfl⟩,hb⟩
  | true =>
   obtain ⟨n,⟨en,row,h70,h69⟩,hrule⟩:=rule_fn p q A5 c5 A6 c6 B5 d5 B6 d6 w bp bq
   obtain ⟨b,a,r,hr⟩ : ∃ b a r,ruleS p q = (b,a,r):=⟨_,_,_,rfl⟩
   obtain ⟨hb,ha⟩:=okp_rule hr bp bq hp hq
   obtain ⟨kb,ka⟩:=rule_keep hr
   have rb : Rd w b A5 c5 A6 c6:=rp.of (by rw [kb]) (by rw [kb])
   have ra : Rd w a B5 d5 B6 d6:=rq.of (by rw [ka]) (by rw [ka])
   rw [hr] at hrule
   obtain ⟨x3,h3⟩ : ∃ x,primB b = x:=⟨_,rfl⟩
   obtain ⟨x4,h4⟩ : ∃ x,primB a = x:=⟨_,rfl⟩
   refine (comm_in p q b a A5 c5 A6 c6 B5 d5 B6 d6 w r x3 x4 hp rp bp hq rq bq hb rb h3 ha ra h4 n en row h70 h69 hrule).mono ?_
   intro e w' hP
   have hno : (r = true ∧ x3 = true ∧ x4 = true → False) → comm p q = (z25,z25,false):=fun hn => if_neg (fun h => by
    rw [hr] at h
    exact hn ⟨h.2.2.1,h3.symm.trans h.2.2.2.1,h4.symm.trans h.2.2.2.2⟩)
   cases r with
   | false => exact ⟨.inl ⟨hno (fun h => by cases h.1),hP.1⟩,hP.2⟩
   | true =>
    cases x3 with
    | false => exact ⟨.inl ⟨hno (fun h => by cases h.2.1),hP.1⟩,hP.2⟩
    | true =>
     cases x4 with
     | false => exact ⟨.inl ⟨hno (fun h => by cases h.2.2),hP.1⟩,hP.2⟩
     | true => exact ⟨.inr ⟨a,b,⟨bp,bq,h4,h3,hr⟩,hP.1⟩,hP.2⟩
/-- Commute, of two patches of which it is known what they are the other way about. -/
theorem comm_is {a b : S25} (p q : S25) (A5 : Option Addr) (c5 : Nat) (A6 : Option Addr) (c6 : Nat) (B5 : Option Addr) (d5 : Nat) (B6 : Option Addr) (d6 : Nat) (w : World) (hp : Okp p) (hq : Okp q) (rp : Rd w p A5 c5 A6 c6) (rq : Rd w q B5 d5 B6 d6) (hy : Yes p q a b) :
  Calls Tryz.prog 42 #[.agg (cs p A5 c5 A6 c6),.agg (cs q B5 d5 B6 d6)] w fun e w' => e = .returned (.tuple #[.agg (cs a B5 d5 B6 d6),.agg (cs b A5 c5 A6 c6),.bool true]) ∧ Below w.heap.size w w':=by
 refine (comm_at p q A5 c5 A6 c6 B5 d5 B6 d6 w hp hq rp rq).mono ?_
 rintro e w' ⟨⟨hn,rfl⟩ | ⟨c,d,h2,rfl⟩,hb⟩
 ·rw [comm_of hy] at hn
  cases hn
 ·obtain ⟨rfl,rfl,-⟩:=prod3 ((comm_of h2).symm.trans (comm_of hy))
  exact ⟨rfl,hb⟩
theorem comm_not (p q : S25) (A5 : Option Addr) (c5 : Nat) (A6 : Option Addr) (c6 : Nat) (B5 : Option Addr) (d5 : Nat) (B6 : Option Addr) (d6 : Nat) (w : World) (hp : Okp p) (hq : Okp q) (rp : Rd w p A5 c5 A6 c6) (rq : Rd w q B5 d5 B6 d6) (hn : (comm p q).2.2 = false) :
  Calls Tryz.prog 42 #[.agg (cs p A5 c5 A6 c6),.agg (cs q B5 d5 B6 d6)] w fun e w' => e = .returned (.tuple #[.agg zeroC,.agg zeroC,.bool false]) ∧ Below w.heap.size w w':=by
 refine (comm_at p q A5 c5 A6 c6 B5 d5 B6 d6 w hp hq rp rq).mono ?_
 rintro e w' ⟨⟨_,rfl⟩ | ⟨c,d,h2,rfl⟩,hb⟩
 ·exact ⟨rfl,hb⟩
 ·rw [comm_of h2] at hn
  cases hn
theorem great_at (x : S25) (A5 : Option Addr) (c5 : Nat) (A6 : Option Addr) (c6 : Nat) (w : World) (hx : Okp x) (rx : Rd w x A5 c5 A6 c6) :
  ∃ r,(r = false → x.f5.length + x.f6.length < 4000) ∧ Calls Tryz.prog 22 #[.agg (cs x A5 c5 A6 c6)] w fun e w' => e = .returned (.bool r) ∧ Below w.heap.size w w':=by
 obtain ⟨r,hr,hl⟩:=great x hx.ok
 obtain ⟨k,hk⟩:=hr.rounds
 exact ⟨r,hl,counterpanelaw08_Great.calls k _ _ _ _ _ _ _ _ _ _ _ r w rx.g5 rx.l5 rx.g6 rx.l6 hk⟩
theorem right_at (x : S25) (A5 : Option Addr) (c5 : Nat) (A6 : Option Addr) (c6 : Nat) (w : World) (hx : Okp x) (rx : Rd w x A5 c5 A6 c6) :
  Calls Tryz.prog 25 #[.agg (cs x A5 c5 A6 c6)] w fun e w' => e = .returned (.bool (primB x)) ∧ Below w.heap.size w w':=by
 obtain ⟨k,hk⟩:=(prim_right x hx).rounds
 exact prim_Right.calls k _ _ _ _ _ _ _ _ _ _ _ _ w rx.g5 rx.l5 rx.g6 rx.l6 hk
end Go.Proofs.YthhohbidjhcjeaaGreatDoor.H
namespace Go.Proofs.YthhohbidjhcjeaaGreatDoor.H
open Go.RowKit Go.Proofs.YthhohbidjhcjeaaGreatDoorW.PrintWords Go.Proofs.YthhohbidjhcjeaaGreatDoorW.PrintLast Go.Proofs.YthhohbidjhcjeaaGreatDoorW.PrintMore
open Go.Proofs.YthhohbidjhcjeaaGreatDoor.Q Go.Proofs.YthhohbidjhcjeaaGreatDoor.Pl

theorem ret26 {tmps : Array Value} {W : World} {gy : Nat} {y0 y1 y2 y3 y4 y5 y6 v r : Value} (h4 : tmps[4]? = some v) (h5 : tmps[5]? = some (.pointer (some ⟨gy,0,none⟩))) (h6 : tmps[6]? = some r)
  (hy : W.heap[gy]? = some (.cells #[y0,y1,y2,y3,y4,y5,y6] 25 (0,0))) :
  (results Tryz.f43 tmps).run Tryz.prog W = .ok (.tuple #[v,.agg #[y0,y1,y2,y3,y4,y5,y6],r]) W:=by
 have yc0 : W.cell? ⟨gy,0,none⟩ = some y0:=(blk_cell hy 0).trans rfl
 have yc1 : W.cell? ⟨gy,1,none⟩ = some y1:=(blk_cell hy 1).trans rfl
 have yc2 : W.cell? ⟨gy,2,none⟩ = some y2:=(blk_cell hy 2).trans rfl
 have yc3 : W.cell? ⟨gy,3,none⟩ = some y3:=(blk_cell hy 3).trans rfl
 have yc4 : W.cell? ⟨gy,4,none⟩ = some y4:=(blk_cell hy 4).trans rfl
 have yc5 : W.cell? ⟨gy,5,none⟩ = some y5:=(blk_cell hy 5).trans rfl
 have yc6 : W.cell? ⟨gy,6,none⟩ = some y6:=(blk_cell hy 6).trans rfl
 simp [results,Tryz.results43,go_sem, *]
theorem infoQ : (Tryz.prog.info? 25).map (fun i => (i.zero,i.size,i.bytes)) = some (some (.agg #[(.int .i64 0),(.string ⟨#[]⟩),(.string ⟨#[]⟩),(.string ⟨#[]⟩),(.int .i64 0),(.slice none 0 0),(.slice none 0 0)]),7,112):=by kernel_rfl
theorem N_far7 {W : World} {base : Nat} {ok : Nat → Prop} {v : Value} {xs : List S25} {g : Nat} (h : Kd.N k25 25 W base ok v xs) (hg : ∀ k,ok k → k ≠ g) (v0 v1 v2 v3 v4 v5 v6 : Value) :
  Kd.N k25 25 (((((((W.setCell ⟨g,0,none⟩ v0).setCell ⟨g,1,none⟩ v1).setCell ⟨g,2,none⟩ v2).setCell ⟨g,3,none⟩ v3).setCell ⟨g,4,none⟩ v4).setCell ⟨g,5,none⟩ v5).setCell ⟨g,6,none⟩ v6) base ok v xs :=
 Kd.N_far (p:=⟨g,6,none⟩) (Kd.N_far (p:=⟨g,5,none⟩) (Kd.N_far (p:=⟨g,4,none⟩) (Kd.N_far (p:=⟨g,3,none⟩) (Kd.N_far (p:=⟨g,2,none⟩) (Kd.N_far (p:=⟨g,1,none⟩) (Kd.N_far (p:=⟨g,0,none⟩) h hg v0) hg v1) hg v2) hg v3) hg v4) hg v5) hg v6
theorem C_far7 {W : World} {base : Nat} {D : Option Addr} {d : Nat} {xs : List S25} (h : Kd.N k25 25 W base (fun k_ => k_ ≠ base ∧ k_ ≠ base + 1) (.slice D xs.length d) xs) (v0 v1 v2 v3 v4 v5 v6 : Value) :
  Kd.C k25 (((((((W.setCell ⟨base + 1,0,none⟩ v0).setCell ⟨base + 1,1,none⟩ v1).setCell ⟨base + 1,2,none⟩ v2).setCell ⟨base + 1,3,none⟩ v3).setCell ⟨base + 1,4,none⟩ v4).setCell ⟨base + 1,5,none⟩ v5).setCell ⟨base + 1,6,none⟩ v6) D xs.length xs :=
 (Kd.N_reads' (N_far7 h (fun _ hk => hk.2) v0 v1 v2 v3 v4 v5 v6)).2.2
/-- What Past hands back. -/
def PastPost (w : World) (p : S25) (l : List S25) (e : Ending) (w' : World) : Prop :=
 ∃ D d C5 e5 C6 e6,e = .returned (.tuple #[.slice D (past p l).1.length d,.agg (cs (past p l).2.1 C5 e5 C6 e6),.bool (past p l).2.2]) ∧ Kd.C k25 w' D (past p l).1.length (past p l).1 ∧ (past p l).1.length ≤ d ∧ Rd w' (past p l).2.1 C5 e5 C6 e6 ∧ Below w.heap.size w w'
set_option maxHeartbeats 8000000 in
set_option maxRecDepth 100000 in
theorem past_at (p : S25) (l : List S25) (A5 : Option Addr) (a5 : Nat) (A6 : Option Addr) (a6 : Nat) (A : Option Addr) (c : Nat) (w : World) (hp : Okp p) (hl : ∀ x ∈ l,Okp x) (hn : l.length * 112 ≤ 140737488355328) (rp : Rd w p A5 a5 A6 a6) (gl : Kd.C k25 w A l.length l) (_hlc : l.length ≤ c) :
  Calls Tryz.prog 43 #[.agg #[.int .i64 p.f0,.string p.f1,.string p.f2,.string p.f3,.int .i64 p.f4,.slice A5 p.f5.length a5,.slice A6 p.f6.length a6],.slice A l.length c] w (PastPost w p l):=by
 go_enter Tryz.func43,Tryz.ntmps43
 go_wp2
 go_loopg [7,15] l.length (fun kq v7 v15 w' => ∃ (i : Nat) (ys : List S25) (p' : S25) (C5 : Option Addr) (e5 : Nat) (C6 : Option Addr) (e6 : Nat),v15 = .int .i64 (i : Int) ∧ Aside0 (i + kq = l.length) ∧ Aside0 (pastS p l = (pastS p' (l.drop i)).map (fun r => (ys ++ r.1,r.2))) ∧ Aside0 (ys.length = i) ∧ Aside0 (Okp p') ∧ Aside0 (Rd w p' C5 e5 C6 e6) ∧ Aside0 (Kd.N k25 25 w' w.heap.size (fun k_ => k_ ≠ w.heap.size ∧ k_ ≠ w.heap.size + 1) v7 ys) ∧ Aside0 (w'.heap[w.heap.size]? = some (.cells #[.int .i64 p'.f0,.string p'.f1,.string p'.f2,.string p'.f3,.int .i64 p'.f4,.slice C5 p'.f5.length e5,.slice C6 p'.f6.length e6] 25 (0,0))) ∧ Aside0 (w'.heap[w.heap.size + 1]? = some (.cells zeroC 25 (0,0))) ∧ Aside0 (Below w.heap.size w w'))
 case atStart => exact ⟨0,[],p,A5,a5,A6,a6,rfl,⟨by omega⟩,⟨by cases h : pastS p l with | none => rw [List.drop_zero,h]; rfl | some r => rw [List.drop_zero,h]; rfl⟩,⟨rfl⟩,⟨hp⟩,⟨rp⟩,⟨Kd.N_nil _ _ _ _ _⟩,⟨box1 w _ _⟩,⟨box2 w _ _⟩,⟨((Below.refl _ w).alloc (Nat.le_refl _) _).alloc (by simp) _⟩⟩
 case round =>
  obtain ⟨i,ys,p',C5,e5,C6,e6,rfl,hk,hpast,hlen,hp',rp',hN,xp,xr,hB⟩:=hrel
  by_cases hi : i < l.length
  ·have c1b : decide ((i : Int) < (l.length : Int)) = true:=decide_eq_true (by omega)
   obtain ⟨ad,X5,x5,X6,x6,eA,y0,y1,y2,y3,y4,y5,y6,l5,g5,l6,g6⟩:=at_T25 gl (i : Int) (by omega) (by omega)
   obtain ⟨x,hx⟩ : ∃ x,rd_T25 l (i : Int) = x:=⟨_,rfl⟩
   rw [hx] at y0 y1 y2 y3 y4 y5 y6 l5 g5 l6 g6
   have hxm : x = l[i]:=by rw [← hx,rd_T24_get l hi]
   have rx : Aside0 (Rd w x X5 x5 X6 x6):=⟨⟨g5,l5,g6,l6⟩⟩
   have hox : Okp x:=by rw [hxm]; exact hl _ (List.getElem_mem hi)
   have hbW:=hB.out
   have i0 : (0 : Int) ≤ (i : Int):=by omega
   have i1 : (i : Int) < (l.length : Int):=by omega
   have z0:=pw_cell_below hbW y0
   have z1:=pw_cell_below hbW y1
   have z2:=pw_cell_below hbW y2
   have z3:=pw_cell_below hbW y3
   have z4:=pw_cell_below hbW y4
   have z5:=pw_cell_below hbW y5
   have z6:=pw_cell_below hbW y6
   simp only [Int.toNat_natCast] at z0 z1 z2 z3 z4 z5 z6
   clear y0 y1 y2 y3 y4 y5 y6 l5 g5 l6 g6 hx
   subst eA
   have hszw:=hbW.size
   have pc0 : wr.cell? ⟨w.heap.size,0,none⟩ = some (.int .i64 p'.f0):=(blk_cell xp.out 0).trans rfl
   have pc1 : wr.cell? ⟨w.heap.size,1,none⟩ = some (.string p'.f1):=(blk_cell xp.out 1).trans rfl
   have pc2 : wr.cell? ⟨w.heap.size,2,none⟩ = some (.string p'.f2):=(blk_cell xp.out 2).trans rfl
   have pc3 : wr.cell? ⟨w.heap.size,3,none⟩ = some (.string p'.f3):=(blk_cell xp.out 3).trans rfl
   have pc4 : wr.cell? ⟨w.heap.size,4,none⟩ = some (.int .i64 p'.f4):=(blk_cell xp.out 4).trans rfl
   have pc5 : wr.cell? ⟨w.heap.size,5,none⟩ = some (.slice C5 p'.f5.length e5):=(blk_cell xp.out 5).trans rfl
   have pc6 : wr.cell? ⟨w.heap.size,6,none⟩ = some (.slice C6 p'.f6.length e6):=(blk_cell xp.out 6).trans rfl
   have pd0 : ∀ o,(wr.alloc o).cell? ⟨w.heap.size,0,none⟩ = some (.int .i64 p'.f0):=fun o => (blk_cell (blk_alloc xp.out o) 0).trans rfl
   have pd1 : ∀ o,(wr.alloc o).cell? ⟨w.heap.size,1,none⟩ = some (.string p'.f1):=fun o => (blk_cell (blk_alloc xp.out o) 1).trans rfl
   have pd2 : ∀ o,(wr.alloc o).cell? ⟨w.heap.size,2,none⟩ = some (.string p'.f2):=fun o => (blk_cell (blk_alloc xp.out o) 2).trans rfl
   have pd3 : ∀ o,(wr.alloc o).cell? ⟨w.heap.size,3,none⟩ = some (.string p'.f3):=fun o => (blk_cell (blk_alloc xp.out o) 3).trans rfl
   have pd4 : ∀ o,(wr.alloc o).cell? ⟨w.heap.size,4,none⟩ = some (.int .i64 p'.f4):=fun o => (blk_cell (blk_alloc xp.out o) 4).trans rfl
   have pd5 : ∀ o,(wr.alloc o).cell? ⟨w.heap.size,5,none⟩ = some (.slice C5 p'.f5.length e5):=fun o => (blk_cell (blk_alloc xp.out o) 5).trans rfl
   have pd6 : ∀ o,(wr.alloc o).cell? ⟨w.heap.size,6,none⟩ = some (.slice C6 p'.f6.length e6):=fun o => (blk_cell (blk_alloc xp.out o) 6).trans rfl
   have hxl:=Aside0.mk hxm
   clear hxm hbW
   go_wp2_with (fail)
   refine (comm_at p' x C5 e5 C6 e6 X5 x5 X6 x6 _ hp'.out hox ((rp'.out.below hB.out).below (by repeat (first | exact Below.refl _ _ | refine Below.setCell ?_ (by simp <;> omega) _ | refine Below.alloc ?_ (by simp <;> omega) _ | refine Below.drew ?_))) ((rx.out.below hB.out).below (by repeat (first | exact Below.refl _ _ | refine Below.setCell ?_ (by simp <;> omega) _ | refine Below.alloc ?_ (by simp <;> omega) _ | refine Below.drew ?_)))).mono ?_
   rintro e w2 ⟨h4,hb2⟩
   clear pc0 pc1 pc2 pc3 pc4 pc5 pc6 z0 pd0 z1 pd1 z2 pd2 z3 pd3 z4 pd4 z5 pd5 z6 pd6
   have hs2 : Below wr.heap.size wr w2:=two_steps (by repeat (first | exact Below.refl _ _ | refine Below.setCell ?_ (by simp <;> omega) _ | refine Below.alloc ?_ (by simp <;> omega) _ | refine Below.drew ?_)) hb2
   clear hb2
   have hB2 : Aside0 (Below w.heap.size w w2):=⟨hB.out.trans (hs2.mono hB.out.size)⟩
   have xp2:=blk_below xp.out hs2
   have xr2:=blk_below xr.out hs2
   have hN2:=Aside0.mk (Kd.N_below hN.out hs2)
   have hsz2:=hs2.size
   have hdrop : l.drop i = x :: l.drop (i + 1):=by rw [hxl.out]; exact List.drop_eq_getElem_cons hi
   have hdr:=Aside0.mk hdrop
   clear hdrop hs2
   rcases h4 with ⟨hn4,rfl⟩ | ⟨a,b,hy,rfl⟩
   ·have hno:=Aside0.mk hn4
    clear hn4
    have xc0 : ∀ o o',((w2.alloc o).alloc o').cell? ⟨w.heap.size + 1,0,none⟩ = some (.int .i64 0):=fun o o' => (blk_cell (blk_alloc (blk_alloc xr2 o) o') 0).trans rfl
    have xc1 : ∀ o o',((w2.alloc o).alloc o').cell? ⟨w.heap.size + 1,1,none⟩ = some (.string ⟨#[]⟩):=fun o o' => (blk_cell (blk_alloc (blk_alloc xr2 o) o') 1).trans rfl
    have xc2 : ∀ o o',((w2.alloc o).alloc o').cell? ⟨w.heap.size + 1,2,none⟩ = some (.string ⟨#[]⟩):=fun o o' => (blk_cell (blk_alloc (blk_alloc xr2 o) o') 2).trans rfl
    have xc3 : ∀ o o',((w2.alloc o).alloc o').cell? ⟨w.heap.size + 1,3,none⟩ = some (.string ⟨#[]⟩):=fun o o' => (blk_cell (blk_alloc (blk_alloc xr2 o) o') 3).trans rfl
    have xc4 : ∀ o o',((w2.alloc o).alloc o').cell? ⟨w.heap.size + 1,4,none⟩ = some (.int .i64 0):=fun o o' => (blk_cell (blk_alloc (blk_alloc xr2 o) o') 4).trans rfl
    have xc5 : ∀ o o',((w2.alloc o).alloc o').cell? ⟨w.heap.size + 1,5,none⟩ = some (.slice none 0 0):=fun o o' => (blk_cell (blk_alloc (blk_alloc xr2 o) o') 5).trans rfl
    have xc6 : ∀ o o',((w2.alloc o).alloc o').cell? ⟨w.heap.size + 1,6,none⟩ = some (.slice none 0 0):=fun o o' => (blk_cell (blk_alloc (blk_alloc xr2 o) o') 6).trans rfl
    have xf0 : ∀ o o',((w2.alloc o).alloc o').frozen? ⟨w.heap.size + 1,0,none⟩ = false:=fun o o' => blk_frozen (blk_alloc (blk_alloc xr2 o) o') 0
    have xf1 : ∀ o o',((w2.alloc o).alloc o').frozen? ⟨w.heap.size + 1,1,none⟩ = false:=fun o o' => blk_frozen (blk_alloc (blk_alloc xr2 o) o') 1
    have xf2 : ∀ o o',((w2.alloc o).alloc o').frozen? ⟨w.heap.size + 1,2,none⟩ = false:=fun o o' => blk_frozen (blk_alloc (blk_alloc xr2 o) o') 2
    have xf3 : ∀ o o',((w2.alloc o).alloc o').frozen? ⟨w.heap.size + 1,3,none⟩ = false:=fun o o' => blk_frozen (blk_alloc (blk_alloc xr2 o) o') 3
    have xf4 : ∀ o o',((w2.alloc o).alloc o').frozen? ⟨w.heap.size + 1,4,none⟩ = false:=fun o o' => blk_frozen (blk_alloc (blk_alloc xr2 o) o') 4
    have xf5 : ∀ o o',((w2.alloc o).alloc o').frozen? ⟨w.heap.size + 1,5,none⟩ = false:=fun o o' => blk_frozen (blk_alloc (blk_alloc xr2 o) o') 5
    have xf6 : ∀ o o',((w2.alloc o).alloc o').frozen? ⟨w.heap.size + 1,6,none⟩ = false:=fun o o' => blk_frozen (blk_alloc (blk_alloc xr2 o) o') 6
    have hz : Aside0 (past p l = ([],z25,false)):=⟨by unfold past; rw [hpast.out,hdr.out,pastS,hno.out,if_neg (by simp)]; rfl⟩
    go_wp2
    (try simp only [Exit.noGoto_ret,Exit.inBlock,Exit.then])
    refine bodyPost_ret (ret26 (gy:=w.heap.size + 1) (y0:=.int .i64 0) (y1:=.string ⟨#[]⟩) (y2:=.string ⟨#[]⟩) (y3:=.string ⟨#[]⟩) (y4:=.int .i64 0) (y5:=.slice none 0 0) (y6:=.slice none 0 0) rfl rfl rfl ?_) rfl ?_
    ·exact set7 ((blk_alloc (blk_alloc xr2 _) _)) rfl _ _ _ _ _ _ _
    ·unfold PastPost
     rw [hz.out]
     exact ⟨none,0,none,0,none,0,rfl,Kd.C_nil _ _,Nat.le_refl _,⟨Kd.C_nil _ _,Nat.le_refl _,Kd.C_nil _ _,Nat.le_refl _⟩,below7 ((hB2.out.alloc hB2.out.size _).alloc (by have:=hB2.out.size; simp; omega) _) (by omega) _ _ _ _ _ _ _⟩
   ·cases gk with
    | zero => have:=hk.out; omega
    | succ k1 =>
     obtain ⟨kb,ka⟩:=rule_keep hy.r
     have ra : Aside0 (Rd w a X5 x5 X6 x6):=⟨rx.out.of (by rw [ka]) (by rw [ka])⟩
     have rb : Aside0 (Rd w b C5 e5 C6 e6):=⟨rp'.out.of (by rw [kb]) (by rw [kb])⟩
     clear ka kb
     have hob : Okp b:=(okp_yes hy hp'.out hox).2
     have hcy:=Aside0.mk (comm_of hy)
     have hown : ∀ k,u7.ownBlock = some k → w.heap.size ≤ k ∧ k < wr.heap.size:=fun k hk => ⟨Kd.N_base hN.out k hk,Kd.N_lt hN.out k hk⟩
     have hon : ∀ k,(k < w.heap.size ∨ wr.heap.size ≤ k) → some k ≠ u7.ownBlock:=fun k hk he => by have:=hown k he.symm; omega
     have hBA : Aside0 (Below w.heap.size w ((w2.alloc (.cells #[.int .i64 a.f0,.string a.f1,.string a.f2,.string a.f3,.int .i64 a.f4,.slice X5 a.f5.length x5,.slice X6 a.f6.length x6] 25)).alloc (.cells #[.int .i64 b.f0,.string b.f1,.string b.f2,.string b.f3,.int .i64 b.f4,.slice C5 b.f5.length e5,.slice C6 b.f6.length e6] 25))):=⟨(hB2.out.alloc hB2.out.size _).alloc (by have:=hB2.out.size; simp; omega) _⟩
     have fkA : Aside0 (Kd.FK k25 ((w2.alloc (.cells #[.int .i64 a.f0,.string a.f1,.string a.f2,.string a.f3,.int .i64 a.f4,.slice X5 a.f5.length x5,.slice X6 a.f6.length x6] 25)).alloc (.cells #[.int .i64 b.f0,.string b.f1,.string b.f2,.string b.f3,.int .i64 b.f4,.slice C5 b.f5.length e5,.slice C6 b.f6.length e6] 25)) (fun k_ => k_ < w.heap.size) a [.int .i64 a.f0,.string a.f1,.string a.f2,.string a.f3,.int .i64 a.f4,.slice X5 a.f5.length x5,.slice X6 a.f6.length x6]):=⟨k25_mkF _ _ a ra.out.l5 (Kd.F_below (Kd.C_F Kd.heap_string ra.out.g5) hBA.out) ra.out.l6 (Kd.F_below (Kd.C_F Kd.heap_string ra.out.g6) hBA.out)⟩
     have hokA : Aside0 (∀ k,k < w.heap.size → (k ≠ w.heap.size ∧ k ≠ w.heap.size + 1) ∧ some k ≠ u7.ownBlock):=⟨fun k hk => ⟨⟨by omega,by omega⟩,hon k (.inl hk)⟩⟩
     have hfrA : Aside0 (∀ k,((w2.alloc (.cells #[.int .i64 a.f0,.string a.f1,.string a.f2,.string a.f3,.int .i64 a.f4,.slice X5 a.f5.length x5,.slice X6 a.f6.length x6] 25)).alloc (.cells #[.int .i64 b.f0,.string b.f1,.string b.f2,.string b.f3,.int .i64 b.f4,.slice C5 b.f5.length e5,.slice C6 b.f6.length e6] 25)).heap.size ≤ k → k ≠ w.heap.size ∧ k ≠ w.heap.size + 1):=⟨fun k hk => by have:=blk_lt xr2; simp at hk; omega⟩
     have hNA : Aside0 (Kd.N k25 25 ((w2.alloc (.cells #[.int .i64 a.f0,.string a.f1,.string a.f2,.string a.f3,.int .i64 a.f4,.slice X5 a.f5.length x5,.slice X6 a.f6.length x6] 25)).alloc (.cells #[.int .i64 b.f0,.string b.f1,.string b.f2,.string b.f3,.int .i64 b.f4,.slice C5 b.f5.length e5,.slice C6 b.f6.length e6] 25)) w.heap.size (fun k_ => k_ ≠ w.heap.size ∧ k_ ≠ w.heap.size + 1) u7 ys):=⟨Kd.N_alloc (Kd.N_alloc hN2.out _) _⟩
     have hSA : Aside0 (w.heap.size ≤ ((w2.alloc (.cells #[.int .i64 a.f0,.string a.f1,.string a.f2,.string a.f3,.int .i64 a.f4,.slice X5 a.f5.length x5,.slice X6 a.f6.length x6] 25)).alloc (.cells #[.int .i64 b.f0,.string b.f1,.string b.f2,.string b.f3,.int .i64 b.f4,.slice C5 b.f5.length e5,.slice C6 b.f6.length e6] 25)).heap.size):=⟨hBA.out.size⟩
     have hLA : Aside0 ((ys.length + 1) * 112 ≤ 140737488355328):=⟨by have:=hlen.out; omega⟩
     have n1 : some (w2.heap.size + 1) ≠ u7.ownBlock:=hon _ (.inr (by omega))
     have n2 : some w.heap.size ≠ u7.ownBlock:=Kd.N_away hN.out (fun k hk => hk.1)
     have n3 : some (w.heap.size + 1) ≠ u7.ownBlock:=Kd.N_away hN.out (fun k hk => hk.2)
     have xbA : Aside0 (∀ w3,((w2.alloc (.cells #[.int .i64 a.f0,.string a.f1,.string a.f2,.string a.f3,.int .i64 a.f4,.slice X5 a.f5.length x5,.slice X6 a.f6.length x6] 25)).alloc (.cells #[.int .i64 b.f0,.string b.f1,.string b.f2,.string b.f3,.int .i64 b.f4,.slice C5 b.f5.length e5,.slice C6 b.f6.length e6] 25)).grownBy w3 u7.ownBlock → w3.heap[w2.heap.size + 1]? = some (.cells #[.int .i64 b.f0,.string b.f1,.string b.f2,.string b.f3,.int .i64 b.f4,.slice C5 b.f5.length e5,.slice C6 b.f6.length e6] 25 (0,0))):=⟨fun w3 hg => (hg.block _ (by simp) n1).trans (box2 _ _ _)⟩
     have xpA : Aside0 (∀ w3,((w2.alloc (.cells #[.int .i64 a.f0,.string a.f1,.string a.f2,.string a.f3,.int .i64 a.f4,.slice X5 a.f5.length x5,.slice X6 a.f6.length x6] 25)).alloc (.cells #[.int .i64 b.f0,.string b.f1,.string b.f2,.string b.f3,.int .i64 b.f4,.slice C5 b.f5.length e5,.slice C6 b.f6.length e6] 25)).grownBy w3 u7.ownBlock → w3.heap[w.heap.size]? = some (.cells #[.int .i64 p'.f0,.string p'.f1,.string p'.f2,.string p'.f3,.int .i64 p'.f4,.slice C5 p'.f5.length e5,.slice C6 p'.f6.length e6] 25 (0,0))):=⟨fun w3 hg => (hg.block _ (by have:=blk_lt xp2; simp; omega) n2).trans (blk_alloc (blk_alloc xp2 _) _)⟩
     have xrA : Aside0 (∀ w3,((w2.alloc (.cells #[.int .i64 a.f0,.string a.f1,.string a.f2,.string a.f3,.int .i64 a.f4,.slice X5 a.f5.length x5,.slice X6 a.f6.length x6] 25)).alloc (.cells #[.int .i64 b.f0,.string b.f1,.string b.f2,.string b.f3,.int .i64 b.f4,.slice C5 b.f5.length e5,.slice C6 b.f6.length e6] 25)).grownBy w3 u7.ownBlock → w3.heap[w.heap.size + 1]? = some (.cells zeroC 25 (0,0))):=⟨fun w3 hg => (hg.block _ (by have:=blk_lt xr2; simp; omega) n3).trans (blk_alloc (blk_alloc xr2 _) _)⟩
     have hszT : Aside0 (((w2.alloc (.cells #[.int .i64 a.f0,.string a.f1,.string a.f2,.string a.f3,.int .i64 a.f4,.slice X5 a.f5.length x5,.slice X6 a.f6.length x6] 25)).alloc (.cells #[.int .i64 b.f0,.string b.f1,.string b.f2,.string b.f3,.int .i64 b.f4,.slice C5 b.f5.length e5,.slice C6 b.f6.length e6] 25)).heap.size = w2.heap.size + 1 + 1):=⟨by simp⟩
     have hyy:=Aside0.mk hy
     clear hy hown hon n1 n2 n3
     go_wp2_with (((with_reducible refine gate_builtin (b:=.append) (xs:=#[.tmp 29,.tmp 31]) rfl ?_); at_builtin; refine Kd.N_append k25 (w0:=w) w.heap.size rfl (.tmp 29) (.tmp 31) 34 25 (.agg #[(.int .i64 0),(.string ⟨#[]⟩),(.string ⟨#[]⟩),(.string ⟨#[]⟩),(.int .i64 0),(.slice none 0 0),(.slice none 0 0)]) 112 rfl Tryz.underlying34 infoQ rfl (by decide) (by omega) u7 ys a [.int .i64 a.f0,.string a.f1,.string a.f2,.string a.f3,.int .i64 a.f4,.slice X5 a.f5.length x5,.slice X6 a.f6.length x6] (fun k_ => k_ ≠ w.heap.size ∧ k_ ≠ w.heap.size + 1) (fun k_ => k_ < w.heap.size) rfl ?aX ?aP ?aH ?aF ?aO ?aB ?aS ?aL ?_; (case aX => exact congrArg (fun n => Value.slice (some ⟨n,0,none⟩) 1 1) hszT.out.symm); (case aP => exact fkA.out); (case aH => exact hokA.out); (case aF => exact hfrA.out); (case aO => exact hNA.out); (case aB => exact hBA.out); (case aS => exact hSA.out); (case aL => exact hLA.out); intro y1 w3 hN3 hB3 hg3 hat3; have xb3:=xbA.out _ hg3; have xp3:=xpA.out _ hg3; have xr3:=xrA.out _ hg3; have bc0 : w3.cell? ⟨w2.heap.size + 1,0,none⟩ = some (.int .i64 b.f0):=(blk_cell xb3 0).trans rfl; have bc1 : w3.cell? ⟨w2.heap.size + 1,1,none⟩ = some (.string b.f1):=(blk_cell xb3 1).trans rfl; have bc2 : w3.cell? ⟨w2.heap.size + 1,2,none⟩ = some (.string b.f2):=(blk_cell xb3 2).trans rfl; have bc3 : w3.cell? ⟨w2.heap.size + 1,3,none⟩ = some (.string b.f3):=(blk_cell xb3 3).trans rfl; have bc4 : w3.cell? ⟨w2.heap.size + 1,4,none⟩ = some (.int .i64 b.f4):=(blk_cell xb3 4).trans rfl; have bc5 : w3.cell? ⟨w2.heap.size + 1,5,none⟩ = some (.slice C5 b.f5.length e5):=(blk_cell xb3 5).trans rfl; have bc6 : w3.cell? ⟨w2.heap.size + 1,6,none⟩ = some (.slice C6 b.f6.length e6):=(blk_cell xb3 6).trans rfl; have pc0 : w3.cell? ⟨w.heap.size,0,none⟩ = some (.int .i64 p'.f0):=(blk_cell xp3 0).trans rfl; have pc1 : w3.cell? ⟨w.heap.size,1,none⟩ = some (.string p'.f1):=(blk_cell xp3 1).trans rfl; have pc2 : w3.cell? ⟨w.heap.size,2,none⟩ = some (.string p'.f2):=(blk_cell xp3 2).trans rfl; have pc3 : w3.cell? ⟨w.heap.size,3,none⟩ = some (.string p'.f3):=(blk_cell xp3 3).trans rfl; have pc4 : w3.cell? ⟨w.heap.size,4,none⟩ = some (.int .i64 p'.f4):=(blk_cell xp3 4).trans rfl; have pc5 : w3.cell? ⟨w.heap.size,5,none⟩ = some (.slice C5 p'.f5.length e5):=(blk_cell xp3 5).trans rfl; have pc6 : w3.cell? ⟨w.heap.size,6,none⟩ = some (.slice C6 p'.f6.length e6):=(blk_cell xp3 6).trans rfl; have pf0:=blk_frozen xp3 0; have pf1:=blk_frozen xp3 1; have pf2:=blk_frozen xp3 2; have pf3:=blk_frozen xp3 3; have pf4:=blk_frozen xp3 4; have pf5:=blk_frozen xp3 5; have pf6:=blk_frozen xp3 6))
     go_roundg k1
     case measure => omega
     case rel =>
      refine ⟨i + 1,ys ++ [a],b,C5,e5,C6,e6,?_,⟨by have:=hk.out; omega⟩,⟨?_⟩,⟨by have:=hlen.out; simp; omega⟩,⟨hob⟩,rb,⟨N_far7 hN3 (fun k hk => hk.1) _ _ _ _ _ _ _⟩,⟨set7 xp3 rfl _ _ _ _ _ _ _⟩,⟨(keep7 (by omega) _ _ _ _ _ _ _).trans xr3⟩,⟨below7 hB3 (Nat.le_refl _) _ _ _ _ _ _ _⟩⟩
      ·first | rfl | (rw [wrap_1 hi (by omega)])
      ·rw [hpast.out,hdr.out,pastS,hcy.out,if_pos rfl]
       cases pastS b (l.drop (i + 1)) with
       | none => rfl
       | some r => simp
  ·have c1b : decide ((i : Int) < (l.length : Int)) = false:=decide_eq_false (by omega)
   have pc0 : wr.cell? ⟨w.heap.size,0,none⟩ = some (.int .i64 p'.f0):=(blk_cell xp.out 0).trans rfl
   have pc1 : wr.cell? ⟨w.heap.size,1,none⟩ = some (.string p'.f1):=(blk_cell xp.out 1).trans rfl
   have pc2 : wr.cell? ⟨w.heap.size,2,none⟩ = some (.string p'.f2):=(blk_cell xp.out 2).trans rfl
   have pc3 : wr.cell? ⟨w.heap.size,3,none⟩ = some (.string p'.f3):=(blk_cell xp.out 3).trans rfl
   have pc4 : wr.cell? ⟨w.heap.size,4,none⟩ = some (.int .i64 p'.f4):=(blk_cell xp.out 4).trans rfl
   have pc5 : wr.cell? ⟨w.heap.size,5,none⟩ = some (.slice C5 p'.f5.length e5):=(blk_cell xp.out 5).trans rfl
   have pc6 : wr.cell? ⟨w.heap.size,6,none⟩ = some (.slice C6 p'.f6.length e6):=(blk_cell xp.out 6).trans rfl
   have xc0 : wr.cell? ⟨w.heap.size + 1,0,none⟩ = some (.int .i64 0):=(blk_cell xr.out 0).trans rfl
   have xc1 : wr.cell? ⟨w.heap.size + 1,1,none⟩ = some (.string ⟨#[]⟩):=(blk_cell xr.out 1).trans rfl
   have xc2 : wr.cell? ⟨w.heap.size + 1,2,none⟩ = some (.string ⟨#[]⟩):=(blk_cell xr.out 2).trans rfl
   have xc3 : wr.cell? ⟨w.heap.size + 1,3,none⟩ = some (.string ⟨#[]⟩):=(blk_cell xr.out 3).trans rfl
   have xc4 : wr.cell? ⟨w.heap.size + 1,4,none⟩ = some (.int .i64 0):=(blk_cell xr.out 4).trans rfl
   have xc5 : wr.cell? ⟨w.heap.size + 1,5,none⟩ = some (.slice none 0 0):=(blk_cell xr.out 5).trans rfl
   have xc6 : wr.cell? ⟨w.heap.size + 1,6,none⟩ = some (.slice none 0 0):=(blk_cell xr.out 6).trans rfl
   have xf0:=blk_frozen xr.out 0
   have xf1:=blk_frozen xr.out 1
   have xf2:=blk_frozen xr.out 2
   have xf3:=blk_frozen xr.out 3
   have xf4:=blk_frozen xr.out 4
   have xf5:=blk_frozen xr.out 5
   have xf6:=blk_frozen xr.out 6
   have hz : Aside0 (past p l = (ys,p',true)):=⟨by unfold past; rw [hpast.out,List.drop_of_length_le (by omega),pastS]; simp⟩
   obtain ⟨D,d,rfl,hd,hC⟩:=Kd.N_reads hN.out
   go_wp2
   all_goals go_region
   all_goals go_wp2
   all_goals
    refine bodyPost_ret (ret26 (gy:=w.heap.size + 1) (y0:=.int .i64 p'.f0) (y1:=.string p'.f1) (y2:=.string p'.f2) (y3:=.string p'.f3) (y4:=.int .i64 p'.f4) (y5:=.slice C5 p'.f5.length e5) (y6:=.slice C6 p'.f6.length e6) rfl rfl rfl ?_) rfl ?_
    ·exact drew_at (set7 xr.out rfl _ _ _ _ _ _ _)
    ·unfold PastPost
     rw [hz.out]
     have hbz:=Below.drew (below7 hB.out (g:=w.heap.size + 1) (by omega) (.int .i64 p'.f0) (.string p'.f1) (.string p'.f2) (.string p'.f3) (.int .i64 p'.f4) (.slice C5 p'.f5.length e5) (.slice C6 p'.f6.length e6))
     exact ⟨D,d,C5,e5,C6,e6,rfl,Kd.C_drew (C_far7 hN.out _ _ _ _ _ _ _),hd,rp'.out.below hbz,hbz⟩
end Go.Proofs.YthhohbidjhcjeaaGreatDoor.H
namespace Go.Proofs.YthhohbidjhcjeaaGreatDoor.H
open Go.RowKit Go.Proofs.YthhohbidjhcjeaaGreatDoorW.PrintWords Go.Proofs.YthhohbidjhcjeaaGreatDoorW.PrintLast Go.Proofs.YthhohbidjhcjeaaGreatDoorW.PrintMore
open Go.Proofs.YthhohbidjhcjeaaGreatDoor.Q Go.Proofs.YthhohbidjhcjeaaGreatDoor.Pl

abbrev P0 : S25:=⟨7,⟨#[97]⟩,⟨#[]⟩,⟨#[]⟩,0,[⟨#[120]⟩],[⟨#[121]⟩,⟨#[122]⟩]⟩
abbrev Q0 : S25:=⟨7,⟨#[97]⟩,⟨#[]⟩,⟨#[]⟩,5,[⟨#[119]⟩],[]⟩
abbrev A0 : S25:=⟨7,⟨#[97]⟩,⟨#[]⟩,⟨#[]⟩,4,[⟨#[119]⟩],[]⟩
abbrev M0 : S25:=⟨10,⟨#[109]⟩,⟨#[110]⟩,⟨#[]⟩,0,[],[]⟩
abbrev N0 : S25:=⟨9,⟨#[110,47,120]⟩,⟨#[49]⟩,⟨#[]⟩,0,[],[]⟩
abbrev N1 : S25:=⟨9,⟨#[109,47,120]⟩,⟨#[49]⟩,⟨#[]⟩,0,[],[]⟩
theorem yes1 : Yes P0 Q0 A0 P0:=⟨by decide +kernel,by decide +kernel,by decide +kernel,by decide +kernel,by kernel_rfl⟩
theorem yes2 : Yes M0 N0 N1 M0:=⟨by decide +kernel,by decide +kernel,by decide +kernel,by decide +kernel,by kernel_rfl⟩
theorem not3 : (comm P0 P0).2.2 = false:=comm_own (p:=P0) ⟨by decide,by decide⟩
theorem past4 : past P0 [Q0] = ([A0],P0,true):=by
 have h : pastS P0 [Q0] = some ([A0],P0):=by rw [pastS,comm_of yes1,if_pos rfl,pastS]; rfl
 unfold past
 rw [h]
theorem ok_P : Okp P0:=⟨⟨by decide,by decide⟩,by decide,by decide,by decide⟩
theorem ok_Q : Okp Q0:=⟨⟨by decide,by decide⟩,by decide,by decide,by decide⟩
theorem ok_M : Okp M0:=⟨⟨by decide,by decide⟩,by decide,by decide,by decide⟩
theorem ok_N : Okp N0:=⟨⟨by decide,by decide⟩,by decide,by decide,by decide⟩
theorem rd_nil (W : World) (x : S25) (h5 : x.f5 = []) (h6 : x.f6 = []) : Rd W x none 0 none 0:=by
 rw [show x = { x with f5:=[],f6:=[] } from by cases x; cases h5; cases h6; rfl]
 exact ⟨Kd.C_nil _ _,Nat.le_refl _,Kd.C_nil _ _,Nat.le_refl _⟩
theorem five (w : World) (o1 o2 o3 o4 o5 : Obj) : (((((w.alloc o1).alloc o2).alloc o3).alloc o4).alloc o5).heap[w.heap.size]? = some o1 ∧ (((((w.alloc o1).alloc o2).alloc o3).alloc o4).alloc o5).heap[w.heap.size + 1]? = some o2 ∧ (((((w.alloc o1).alloc o2).alloc o3).alloc o4).alloc o5).heap[w.heap.size + 1 + 1]? = some o3 ∧ (((((w.alloc o1).alloc o2).alloc o3).alloc o4).alloc o5).heap[w.heap.size + 1 + 1 + 1]? = some o4 ∧ (((((w.alloc o1).alloc o2).alloc o3).alloc o4).alloc o5).heap[w.heap.size + 1 + 1 + 1 + 1]? = some o5 ∧ Below w.heap.size w (((((w.alloc o1).alloc o2).alloc o3).alloc o4).alloc o5):=by
 refine ⟨blk_alloc (blk_alloc (blk_alloc (box1 w o1 o2) _) _) _,blk_alloc (blk_alloc (blk_alloc (box2 w o1 o2) _) _) _,?_,?_,?_,?_⟩
 ·have h:=blk_alloc (box1 ((w.alloc o1).alloc o2) o3 o4) o5
  simpa using h
 ·have h:=blk_alloc (box2 ((w.alloc o1).alloc o2) o3 o4) o5
  simpa using h
 ·have h:=blk_new ((((w.alloc o1).alloc o2).alloc o3).alloc o4) o5
  simpa using h
 ·exact (((((Below.refl _ w).alloc (Nat.le_refl _) _).alloc (by simp) _).alloc (by simp; omega) _).alloc (by simp; omega) _).alloc (by simp; omega) _
theorem rdP (w : World) (o3 o4 o5 : Obj) : Rd (((((w.alloc (.cells #[.string ⟨#[120]⟩] 9)).alloc (.cells #[.string ⟨#[121]⟩,.string ⟨#[122]⟩] 9)).alloc o3).alloc o4).alloc o5) P0 (some ⟨w.heap.size,0,none⟩) 1 (some ⟨w.heap.size + 1,0,none⟩) 2 :=
 ⟨texts_read (l:=[⟨#[120]⟩]) (five w _ _ _ _ _).1 (by decide),Nat.le_refl _,texts_read (l:=[⟨#[121]⟩,⟨#[122]⟩]) (five w _ _ _ _ _).2.1 (by decide),Nat.le_refl _⟩
theorem rdQ (w : World) (o1 o2 o3 o5 : Obj) : Rd (((((w.alloc o1).alloc o2).alloc o3).alloc (.cells #[.string ⟨#[119]⟩] 9)).alloc o5) Q0 (some ⟨w.heap.size + 1 + 1 + 1,0,none⟩) 1 none 0 :=
 ⟨texts_read (l:=[⟨#[119]⟩]) (five w _ _ _ _ _).2.2.2.1 (by decide),Nat.le_refl _,Kd.C_nil _ _,Nat.le_refl _⟩
theorem lit1 (w : World) (x : S25) (c : List Value) (h : Kd.FK k25 w (fun k => k < w.heap.size) x c) : Kd.C k25 (w.alloc (.cells c.toArray 25)) (some ⟨w.heap.size,0,none⟩) 1 [x]:=by
 have hr : Reps (fun x c => Kd.FK k25 w (fun k => k < w.heap.size) x c) k25.sz [x] ([] ++ c):=(Reps.none _ _).snoc h (Kd.FK_raw h).2.1
 have ho : Kd.NN k25 25 (w.alloc (.cells c.toArray 25)) w.heap.size (fun k => k < w.heap.size) (.slice (some ⟨w.heap.size,0,none⟩) 1 1) [x] :=
  OwnRow.lit w w.heap.size (hr.imp_ (fun _ _ h => Kd.FK_below h (below_alloc (Below.refl _ _) _))) (Nat.le_refl _) (by simp)
 exact (Kd.N_reads' (Kd.NN_N ho (fun _ h => h))).2.2
set_option maxRecDepth 100000 in
set_option maxHeartbeats 4000000 in
theorem head10_calls (w : World) : Calls Tryz.prog 41 #[] w fun e w' => e = .returned (.bool true) ∧ Below w.heap.size w w':=by
 go_enter Tryz.func41,Tryz.ntmps41
 go_wp2_with (fail)
 refine (comm_is P0 Q0 (some ⟨w.heap.size,0,none⟩) 1 (some ⟨w.heap.size + 1,0,none⟩) 2 (some ⟨w.heap.size + 1 + 1 + 1,0,none⟩) 1 none 0 _ ok_P ok_Q (rdP w _ _ _) (rdQ w _ _ _ _) yes1).mono ?_
 rintro e w1 ⟨rfl,hb1⟩
 have hw1 : Below w.heap.size w w1:=(five w _ _ _ _ _).2.2.2.2.2.trans (hb1.mono (five w _ _ _ _ _).2.2.2.2.2.size)
 have rp:=(rdP w _ _ _).below hb1
 have rq:=(rdQ w _ _ _ _).below hb1
 have xp:=blk_below (five w _ _ _ _ _).2.2.1 hb1
 have xq:=blk_below (five w _ _ _ _ _).2.2.2.2.1 hb1
 obtain ⟨pc0,pc1,pc2,pc3,pc4,pc5,pc6⟩:=cells7 xp
 obtain ⟨qc0,qc1,qc2,qc3,qc4,qc5,qc6⟩:=cells7 xq
 obtain ⟨pd0,pd1,pd2,pd3,pd4,pd5,pd6⟩:=deep2 xp
 obtain ⟨qd0,qd1,qd2,qd3,qd4,qd5,qd6⟩:=deep2 xq
 go_wp2_with (fail)
 refine (comm_is M0 N0 none 0 none 0 none 0 none 0 _ ok_M ok_N (rd_nil _ _ rfl rfl) (rd_nil _ _ rfl rfl) yes2).mono ?_
 rintro e w2 ⟨rfl,hb2⟩
 clear pc0 pc1 pc2 pc3 pc4 pc5 pc6 qc0 qc1 qc2 qc3 qc4 qc5 qc6 pd0 pd1 pd2 pd3 pd4 pd5 pd6 qd0 qd1 qd2 qd3 qd4 qd5 qd6
 have hs2 : Below w1.heap.size w1 w2:=two_steps (by repeat (first | exact Below.refl _ _ | refine Below.setCell ?_ (by simp <;> omega) _ | refine Below.alloc ?_ (by simp <;> omega) _ | refine Below.drew ?_)) hb2
 have hw2 : Below w.heap.size w w2:=hw1.trans (hs2.mono hw1.size)
 have xp:=blk_below xp hs2
 have xq:=blk_below xq hs2
 have rp:=rp.below hs2
 have rq:=rq.below hs2
 have xa : w2.heap[w1.heap.size]? = some (.cells #[.int .i64 7,.string ⟨#[97]⟩,.string ⟨#[]⟩,.string ⟨#[]⟩,.int .i64 4,.slice (some ⟨w.heap.size + 1 + 1 + 1,0,none⟩) 1 1,.slice none 0 0] 25 (0,0)):=blk_below (box1 w1 _ _) hb2
 have xb : w2.heap[w1.heap.size + 1]? = some (.cells #[.int .i64 7,.string ⟨#[97]⟩,.string ⟨#[]⟩,.string ⟨#[]⟩,.int .i64 0,.slice (some ⟨w.heap.size,0,none⟩) 1 1,.slice (some ⟨w.heap.size + 1,0,none⟩) 2 2] 25 (0,0)):=blk_below (box2 w1 _ _) hb2
 obtain ⟨pc0,pc1,pc2,pc3,pc4,pc5,pc6⟩:=cells7 xp
 obtain ⟨qc0,qc1,qc2,qc3,qc4,qc5,qc6⟩:=cells7 xq
 obtain ⟨ac0,ac1,ac2,ac3,ac4,ac5,ac6⟩:=cells7 xa
 obtain ⟨bc0,bc1,bc2,bc3,bc4,bc5,bc6⟩:=cells7 xb
 obtain ⟨pd0,pd1,pd2,pd3,pd4,pd5,pd6⟩:=deep2 xp
 obtain ⟨qd0,qd1,qd2,qd3,qd4,qd5,qd6⟩:=deep2 xq
 obtain ⟨ad0,ad1,ad2,ad3,ad4,ad5,ad6⟩:=deep2 xa
 obtain ⟨bd0,bd1,bd2,bd3,bd4,bd5,bd6⟩:=deep2 xb
 go_wp2_with (fail)
 refine (comm_not P0 P0 (some ⟨w.heap.size,0,none⟩) 1 (some ⟨w.heap.size + 1,0,none⟩) 2 (some ⟨w.heap.size,0,none⟩) 1 (some ⟨w.heap.size + 1,0,none⟩) 2 _ ok_P ok_P (rp.below (by repeat (first | exact Below.refl _ _ | refine Below.setCell ?_ (by simp <;> omega) _ | refine Below.alloc ?_ (by simp <;> omega) _ | refine Below.drew ?_))) (rp.below (by repeat (first | exact Below.refl _ _ | refine Below.setCell ?_ (by simp <;> omega) _ | refine Below.alloc ?_ (by simp <;> omega) _ | refine Below.drew ?_))) not3).mono ?_
 rintro e w3 ⟨rfl,hb3⟩
 clear pc0 pc1 pc2 pc3 pc4 pc5 pc6 qc0 qc1 qc2 qc3 qc4 qc5 qc6 ac0 ac1 ac2 ac3 ac4 ac5 ac6 bc0 bc1 bc2 bc3 bc4 bc5 bc6 pd0 pd1 pd2 pd3 pd4 pd5 pd6 qd0 qd1 qd2 qd3 qd4 qd5 qd6 ad0 ad1 ad2 ad3 ad4 ad5 ad6 bd0 bd1 bd2 bd3 bd4 bd5 bd6
 have hs3 : Below w2.heap.size w2 w3:=two_steps (by repeat (first | exact Below.refl _ _ | refine Below.setCell ?_ (by simp <;> omega) _ | refine Below.alloc ?_ (by simp <;> omega) _ | refine Below.drew ?_)) hb3
 have hw3 : Below w.heap.size w w3:=hw2.trans (hs3.mono hw2.size)
 have xp:=blk_below xp hs3
 have xq:=blk_below xq hs3
 have xa:=blk_below xa hs3
 have xb:=blk_below xb hs3
 have rp:=rp.below hs3
 have rq:=rq.below hs3
 have xc : w3.heap[w2.heap.size]? = some (.cells #[.int .i64 9,.string ⟨#[109,47,120]⟩,.string ⟨#[49]⟩,.string ⟨#[]⟩,.int .i64 0,.slice none 0 0,.slice none 0 0] 25 (0,0)):=blk_below (box1 w2 _ _) hb3
 have xd : w3.heap[w2.heap.size + 1]? = some (.cells #[.int .i64 10,.string ⟨#[109]⟩,.string ⟨#[110]⟩,.string ⟨#[]⟩,.int .i64 0,.slice none 0 0,.slice none 0 0] 25 (0,0)):=blk_below (box2 w2 _ _) hb3
 obtain ⟨pc0,pc1,pc2,pc3,pc4,pc5,pc6⟩:=cells7 xp
 obtain ⟨qc0,qc1,qc2,qc3,qc4,qc5,qc6⟩:=cells7 xq
 obtain ⟨ac0,ac1,ac2,ac3,ac4,ac5,ac6⟩:=cells7 xa
 obtain ⟨bc0,bc1,bc2,bc3,bc4,bc5,bc6⟩:=cells7 xb
 obtain ⟨cc0,cc1,cc2,cc3,cc4,cc5,cc6⟩:=cells7 xc
 obtain ⟨dc0,dc1,dc2,dc3,dc4,dc5,dc6⟩:=cells7 xd
 obtain ⟨pd0,pd1,pd2,pd3,pd4,pd5,pd6⟩:=deep2 xp
 obtain ⟨qd0,qd1,qd2,qd3,qd4,qd5,qd6⟩:=deep2 xq
 obtain ⟨ad0,ad1,ad2,ad3,ad4,ad5,ad6⟩:=deep2 xa
 obtain ⟨bd0,bd1,bd2,bd3,bd4,bd5,bd6⟩:=deep2 xb
 obtain ⟨cd0,cd1,cd2,cd3,cd4,cd5,cd6⟩:=deep2 xc
 obtain ⟨dd0,dd1,dd2,dd3,dd4,dd5,dd6⟩:=deep2 xd
 go_wp2_with (fail)
 have hT : Below w3.heap.size w3 ((w3.alloc (.cells #[.int .i64 0,.string ⟨#[]⟩,.string ⟨#[]⟩,.string ⟨#[]⟩,.int .i64 0,.slice none 0 0,.slice none 0 0] 25)).alloc (.cells #[.int .i64 0,.string ⟨#[]⟩,.string ⟨#[]⟩,.string ⟨#[]⟩,.int .i64 0,.slice none 0 0,.slice none 0 0] 25)):=by repeat (first | exact Below.refl _ _ | refine Below.setCell ?_ (by simp <;> omega) _ | refine Below.alloc ?_ (by simp <;> omega) _ | refine Below.drew ?_)
 have gl:=lit1 ((w3.alloc (.cells #[.int .i64 0,.string ⟨#[]⟩,.string ⟨#[]⟩,.string ⟨#[]⟩,.int .i64 0,.slice none 0 0,.slice none 0 0] 25)).alloc (.cells #[.int .i64 0,.string ⟨#[]⟩,.string ⟨#[]⟩,.string ⟨#[]⟩,.int .i64 0,.slice none 0 0,.slice none 0 0] 25)) Q0 [.int .i64 7,.string ⟨#[97]⟩,.string ⟨#[]⟩,.string ⟨#[]⟩,.int .i64 5,.slice (some ⟨w.heap.size + 1 + 1 + 1,0,none⟩) 1 1,.slice none 0 0] (k25_mkF _ _ Q0 (rq.below hT).l5 (Kd.C_F Kd.heap_string (rq.below hT).g5) (rq.below hT).l6 (Kd.C_F Kd.heap_string (rq.below hT).g6))
 simp only [World.size_alloc] at gl
 refine (past_at P0 [Q0] (some ⟨w.heap.size,0,none⟩) 1 (some ⟨w.heap.size + 1,0,none⟩) 2 (some ⟨w3.heap.size + 1 + 1,0,none⟩) 1 _ ok_P (by intro x hx; rw [List.mem_singleton.1 hx]; exact ok_Q) (by decide) (rp.below (by repeat (first | exact Below.refl _ _ | refine Below.setCell ?_ (by simp <;> omega) _ | refine Below.alloc ?_ (by simp <;> omega) _ | refine Below.drew ?_))) gl (Nat.le_refl _)).mono ?_
 intro e w4 h4
 unfold PastPost at h4
 rw [past4] at h4
 obtain ⟨D,d,C5,e5,C6,e6,rfl,gD,hD,rD,hb4⟩:=h4
 clear gl gD hD rD
 clear pc0 pc1 pc2 pc3 pc4 pc5 pc6 qc0 qc1 qc2 qc3 qc4 qc5 qc6 ac0 ac1 ac2 ac3 ac4 ac5 ac6 bc0 bc1 bc2 bc3 bc4 bc5 bc6 cc0 cc1 cc2 cc3 cc4 cc5 cc6 dc0 dc1 dc2 dc3 dc4 dc5 dc6 pd0 pd1 pd2 pd3 pd4 pd5 pd6 qd0 qd1 qd2 qd3 qd4 qd5 qd6 ad0 ad1 ad2 ad3 ad4 ad5 ad6 bd0 bd1 bd2 bd3 bd4 bd5 bd6 cd0 cd1 cd2 cd3 cd4 cd5 cd6 dd0 dd1 dd2 dd3 dd4 dd5 dd6
 have hs4 : Below w3.heap.size w3 w4:=two_steps (by repeat (first | exact Below.refl _ _ | refine Below.setCell ?_ (by simp <;> omega) _ | refine Below.alloc ?_ (by simp <;> omega) _ | refine Below.drew ?_)) hb4
 have hw4 : Below w.heap.size w w4:=hw3.trans (hs4.mono hw3.size)
 clear hT
 have xp:=blk_below xp hs4
 have xq:=blk_below xq hs4
 have xa:=blk_below xa hs4
 have xb:=blk_below xb hs4
 have xc:=blk_below xc hs4
 have xd:=blk_below xd hs4
 obtain ⟨ad0,ad1,ad2,ad3,ad4,ad5,ad6⟩:=deep1 xa
 obtain ⟨bd0,bd1,bd2,bd3,bd4,bd5,bd6⟩:=deep1 xb
 obtain ⟨cd0,cd1,cd2,cd3,cd4,cd5,cd6⟩:=deep1 xc
 obtain ⟨dd0,dd1,dd2,dd3,dd4,dd5,dd6⟩:=deep1 xd
 go_wp2
 go_ret
 exact ⟨rfl,by repeat (first | with_reducible exact hw4 | refine Below.alloc ?_ (by have:=hw4.size; simp <;> omega) _)⟩
end Go.Proofs.YthhohbidjhcjeaaGreatDoor.H
namespace Go.Proofs.YthhohbidjhcjeaaGreatDoor.Pl
open Go.RowKit Go.Proofs.YthhohbidjhcjeaaGreatDoorW.PrintWords Go.Proofs.YthhohbidjhcjeaaGreatDoorW.PrintMore Go.Proofs.YthhohbidjhcjeaaGreatDoor.Q Go.Proofs.YthhohbidjhcjeaaGreatDoor.H

/-! ### rows the other way about -/
/-- Two rows the other way about: the last patch of the first one passes first. -/
def swapS : List S25 → List S25 → Option (List S25 × List S25)
 | [],b => some (b,[])
 | p :: a,b => (swapS a b).bind fun z => (pastS p z.1).map fun y => (y.1,y.2 :: z.2)
theorem pastS_nil (p : S25) : pastS p [] = some ([],p):=rfl
theorem swap_nil : ∀ a : List S25,swapS a [] = some ([],a)
 | [] => rfl
 | p :: a => by rw [swapS,swap_nil a]; rfl
theorem swap_append (b c : List S25) : ∀ a : List S25,swapS (a ++ b) c = (swapS b c).bind fun z => (swapS a z.1).map fun y => (y.1,y.2 ++ z.2)
 | [] => by
  show swapS b c = _
  cases swapS b c with
  | none => rfl
  | some z => rfl
 | p :: a => by
  show swapS (p :: (a ++ b)) c = _
  rw [swapS,swap_append b c a]
  cases swapS b c with
  | none => rfl
  | some z =>
   simp only [Option.bind_some,swapS]
   cases swapS a z.1 with
   | none => rfl
   | some y =>
    simp only [Option.map_some,Option.bind_some]
    cases pastS p y.1 with
    | none => rfl
    | some x => rfl

/-! ### are two patches alike? -/
def eqS (x y : S25) : Bool:=eqL x.f5 y.f5 && eqL x.f6 y.f6 && decide (x.f0 = y.f0) && decide (x.f1.toList = y.f1.toList) && decide (x.f2.toList = y.f2.toList) && decide (x.f3.toList = y.f3.toList) && decide (x.f4 = y.f4)
theorem eqS_iff (x y : S25) : eqS x y = true ↔ x = y:=by
 constructor
 ·intro h
  unfold eqS at h
  simp only [Bool.and_eq_true,decide_eq_true_eq,eqL_iff] at h
  obtain ⟨⟨⟨⟨⟨⟨h5,h6⟩,h0⟩,h1⟩,h2⟩,h3⟩,h4⟩:=h
  obtain ⟨x0,x1,x2,x3,x4,x5,x6⟩:=x
  obtain ⟨y0,y1,y2,y3,y4,y5,y6⟩:=y
  dsimp only at h0 h1 h2 h3 h4 h5 h6
  rw [h0,toList_inj h1,toList_inj h2,toList_inj h3,h4,h5,h6]
 ·rintro rfl
  unfold eqS
  simp only [Bool.and_eq_true,decide_eq_true_eq,eqL_iff,and_self]

/-! ### joined -/
/-- Do two patches have one kind and one path? -/
def hereB (p q : S25) : Bool:=decide (p.f0 = q.f0) && decide (p.f1.toList = q.f1.toList)
/-- Two neighbours joined: none, or one; 'none': they are not one. -/
def joinS (p q : S25) : Option (Option S25) :=
 if primB p = true ∧ primB q = true then
  if eqS (invS p) q = true then some none
  else if hereB p q = true ∧ p.f0 = 9 ∧ q.f3.toList = p.f2.toList then some (some { p with f2:=q.f2 })
  else if hereB p q = true ∧ p.f0 = 7 ∧ p.f4 = q.f4 ∧ eqL p.f6 q.f5 = true then some (some { p with f6:=q.f6 })
  else if p.f0 = 10 ∧ q.f0 = 10 ∧ q.f1.toList = p.f2.toList ∧ apartB p.f1 q.f2 = true then some (some { p with f2:=q.f2 })
  else none
 else none
/-- A patch put behind others, whose last one stands ahead here. -/
def putS : List S25 → S25 → List S25
 | [],p => [p]
 | t :: r,p => match joinS t p with
  | none => p :: t :: r
  | some none => r
  | some (some x) => putS r x
/-- The stack of a row. -/
def stackS (s l : List S25) : List S25:=l.foldl putS s
def coalS (l : List S25) : List S25:=(stackS [] l).reverse
/-- What is known of a right patch of lines, of bytes, a move. -/
theorem prim_parts {x : S25} (h : primB x = true) : rightB x.f1 = true ∧ (listedB x && x.f0 != 7) = false ∧ kindB x = true:=by
 unfold primB at h
 simp only [Bool.and_eq_true,Bool.not_eq_true'] at h
 exact ⟨h.1.1,h.1.2,h.2⟩
theorem unlisted {x : S25} (h : primB x = true) (h7 : ¬ x.f0 = 7) : x.f5 = [] ∧ x.f6 = [] ∧ x.f4 = 0:=by
 have hl:=(prim_parts h).2.1
 rw [show (x.f0 != 7) = true from by simpa using h7,Bool.and_true] at hl
 unfold listedB at hl
 simp only [Bool.or_eq_false_iff,decide_eq_false_iff_not] at hl
 have e4 : x.f4 = 0:=by simpa using hl.2
 refine ⟨List.length_eq_zero_iff.1 (by omega),List.length_eq_zero_iff.1 (by omega),e4⟩
theorem empty_of {s : ByteArray} (h : s.toList = ([] : List UInt8)) : s = ⟨#[]⟩:=by
 apply data_inj
 rw [← toList_data,h]
theorem prim_nine {x : S25} (h : primB x = true) (h9 : x.f0 = 9) : (x.f3.toList != x.f2.toList) = true ∧ x.f5 = [] ∧ x.f6 = [] ∧ x.f4 = 0:=by
 obtain ⟨e5,e6,e4⟩:=unlisted h (by omega)
 have hk:=(prim_parts h).2.2
 unfold kindB at hk
 rw [if_neg (by omega),if_pos h9] at hk
 exact ⟨hk,e5,e6,e4⟩
theorem prim_seven {x : S25} (h : primB x = true) (h7 : x.f0 = 7) : x.f3 = ⟨#[]⟩ ∧ x.f2 = ⟨#[]⟩ ∧ 0 ≤ x.f4 ∧ x.f4 ≤ 1073741824 ∧ linesB x.f5 = true ∧ linesB x.f6 = true ∧ 0 < x.f5.length + x.f6.length:=by
 have hk:=(prim_parts h).2.2
 unfold kindB at hk
 rw [if_neg (by omega),if_neg (by omega)] at hk
 by_cases h3 : x.f3.toList = ([] : List UInt8)
 ·rw [if_pos h3,if_neg (by omega),if_pos h7] at hk
  simp only [Bool.and_eq_true,decide_eq_true_eq] at hk
  exact ⟨empty_of h3,empty_of hk.1.1.1.1.1,hk.1.1.1.1.2,hk.1.1.1.2,hk.1.1.2,hk.1.2,hk.2⟩
 ·rw [if_neg h3] at hk
  cases hk
theorem prim_ten {x : S25} (h : primB x = true) (h10 : x.f0 = 10) : x.f3 = ⟨#[]⟩ ∧ rightB x.f2 = true ∧ apartB x.f1 x.f2 = true ∧ x.f5 = [] ∧ x.f6 = [] ∧ x.f4 = 0:=by
 obtain ⟨e5,e6,e4⟩:=unlisted h (by omega)
 have hk:=(prim_parts h).2.2
 unfold kindB at hk
 rw [if_neg (by omega),if_neg (by omega)] at hk
 by_cases h3 : x.f3.toList = ([] : List UInt8)
 ·rw [if_pos h3,if_pos h10] at hk
  simp only [Bool.and_eq_true] at hk
  exact ⟨empty_of h3,hk.1,hk.2,e5,e6,e4⟩
 ·rw [if_neg h3] at hk
  cases hk
theorem here_of {p q : S25} (h : hereB p q = true) : p.f0 = q.f0 ∧ p.f1 = q.f1:=by
 unfold hereB at h
 simp only [Bool.and_eq_true,decide_eq_true_eq] at h
 exact ⟨h.1,toList_inj h.2⟩
/-- What two right patches are joined to is right. -/
theorem join_right {p q x : S25} (h : joinS p q = some (some x)) : primB x = true:=by
 unfold joinS at h
 split at h
 ·rename_i hr
  obtain ⟨hp,hq⟩:=hr
  split at h
  ·cases h
  ·rename_i hne
   have hne' : invS p ≠ q:=fun e => hne ((eqS_iff _ _).2 e)
   split at h
   ·rename_i hc
    obtain ⟨hh,h9,hf⟩:=hc
    obtain ⟨e0,e1⟩:=here_of hh
    obtain ⟨hb,p5,p6,p4⟩:=prim_nine hp h9
    obtain ⟨hb',q5,q6,q4⟩:=prim_nine hq (e0.symm.trans h9)
    simp only [Option.some.injEq] at h
    subst h
    have hx : (p.f3.toList != q.f2.toList) = true:=by
     rw [bne_iff_ne]
     intro e
     refine hne' ?_
     obtain ⟨a0,a1,a2,a3,a4,a5,a6⟩:=p
     obtain ⟨b0,b1,b2,b3,b4,b5,b6⟩:=q
     dsimp only at h9 e0 e1 hf e p5 p6 p4 q5 q6 q4
     subst h9 e0 e1 p5 p6 p4 q5 q6 q4
     have h1:=toList_inj e
     have h2:=toList_inj hf
     subst h1 h2
     rfl
    unfold primB kindB listedB
    dsimp only
    rw [if_neg (by omega),if_pos h9,(prim_parts hp).1,p5,p6,p4,hx]
    rfl
   ·split at h
    ·rename_i hc
     obtain ⟨hh,h7,h4,hl⟩:=hc
     obtain ⟨e0,e1⟩:=here_of hh
     obtain ⟨p3,p2,p40,p41,pl5,pl6,pl⟩:=prim_seven hp h7
     obtain ⟨q3,q2,q40,q41,ql5,ql6,ql⟩:=prim_seven hq (e0.symm.trans h7)
     simp only [Option.some.injEq] at h
     subst h
     have hlen : 0 < p.f5.length + q.f6.length:=by
      apply Nat.pos_of_ne_zero
      intro e
      refine hne' ?_
      have e5 : p.f5 = []:=List.length_eq_zero_iff.1 (by omega)
      have e6 : q.f6 = []:=List.length_eq_zero_iff.1 (by omega)
      have el:=(eqL_iff _ _).1 hl
      obtain ⟨a0,a1,a2,a3,a4,a5,a6⟩:=p
      obtain ⟨b0,b1,b2,b3,b4,b5,b6⟩:=q
      dsimp only at h7 e0 e1 h4 p3 p2 q3 q2 e5 e6 el
      subst h7 e0 e1 h4 p3 p2 q3 q2 e5 e6 el
      rfl
     unfold primB kindB
     dsimp only
     rw [if_neg (by omega),if_neg (by omega),p3,p2,if_pos (by rw [toList_data]),if_neg (by omega),if_pos h7,(prim_parts hp).1,h7,pl5,ql6]
     have e : (⟨#[]⟩ : ByteArray).toList = ([] : List UInt8):=by rw [toList_data]
     simp [e,p40,p41,hlen]
    ·split at h
     ·rename_i hc
      obtain ⟨h10,g10,hf,ha⟩:=hc
      obtain ⟨p3,p2,pa,p5,p6,p4⟩:=prim_ten hp h10
      obtain ⟨q3,q2,qa,q5,q6,q4⟩:=prim_ten hq g10
      simp only [Option.some.injEq] at h
      subst h
      unfold primB kindB listedB
      dsimp only
      rw [if_neg (by omega),if_neg (by omega),p3,if_pos (by rw [toList_data]),if_pos h10,(prim_parts hp).1,p5,p6,p4,q2,ha]
      rfl
     ·cases h
 ·cases h
/-- All of a stack are right, and no two neighbours can be joined. -/
def Good : List S25 → Prop
 | [] => True
 | [t] => primB t = true
 | t :: u :: r => primB t = true ∧ joinS u t = none ∧ Good (u :: r)
theorem good_tail {t : S25} {r : List S25} (h : Good (t :: r)) : Good r:=by
 cases r with
 | nil => trivial
 | cons u r => exact h.2.2
theorem good_head {t : S25} {r : List S25} (h : Good (t :: r)) : primB t = true:=by
 cases r with
 | nil => exact h
 | cons u r => exact h.1
theorem good_put : ∀ (s : List S25) (p : S25),Good s → primB p = true → Good (putS s p)
 | [],p,_,hp => hp
 | t :: r,p,hs,hp => by
  unfold putS
  split
  ·rename_i hj
   exact ⟨hp,hj,hs⟩
  ·exact good_tail hs
  ·rename_i x hj
   exact good_put r x (good_tail hs) (join_right hj)
theorem good_stack : ∀ (l s : List S25),Good s → (∀ x ∈ l,primB x = true) → Good (stackS s l)
 | [],_,hs,_ => hs
 | p :: l,s,hs,hl => good_stack l (putS s p) (good_put s p hs (hl p (List.mem_cons_self ..))) (fun x hx => hl x (List.mem_cons_of_mem _ hx))
/-- A good stack's row is its own stack. -/
theorem stack_self : ∀ s : List S25,Good s → stackS [] s.reverse = s
 | [],_ => rfl
 | [t],_ => rfl
 | t :: u :: r,h => by
  have ih:=stack_self (u :: r) h.2.2
  unfold stackS at ih ⊢
  rw [List.reverse_cons,List.foldl_append,ih]
  show putS (u :: r) t = _
  unfold putS
  rw [h.2.1]
/-- What undoes a stack's patches takes them away. -/
theorem stack_back : ∀ s : List S25,Good s → stackS s (s.map invS) = []
 | [],_ => rfl
 | t :: r,h => by
  have ht:=good_head h
  have hj : joinS t (invS t) = some none:=by
   unfold joinS
   rw [if_pos ⟨ht,primB_inv ht⟩,if_pos ((eqS_iff _ _).2 rfl)]
  have hp : putS (t :: r) (invS t) = r:=by
   unfold putS
   rw [hj]
  show stackS (putS (t :: r) (invS t)) (r.map invS) = []
  rw [hp]
  exact stack_back r (good_tail h)
/-- A row of right patches, joined, and what undoes it: joined that is nothing. -/
theorem coal_undone (l : List S25) (h : ∀ x ∈ l,primB x = true) : coalS (coalS l ++ ((coalS l).reverse.map invS)) = []:=by
 have hg:=good_stack l [] trivial h
 unfold coalS
 rw [List.reverse_reverse]
 unfold stackS
 rw [List.foldl_append]
 have h1:=stack_self _ hg
 unfold stackS at h1
 rw [h1]
 have h2:=stack_back _ hg
 unfold stackS at h2
 rw [h2]
 rfl
/-- What the document's Join makes of two. -/
def refJoin (p q : S25) : S25 × Int × Bool :=
 if primB p = true ∧ primB q = true then
  if eqS (invS p) q = true then (z25,0,true)
  else if ¬ p.f0 = q.f0 then (z25,0,false)
  else if p.f0 = 9 ∧ p.f1.toList = q.f1.toList ∧ q.f3.toList = p.f2.toList then (⟨9,p.f1,q.f2,p.f3,0,[],[]⟩,1,true)
  else if p.f0 = 7 ∧ p.f1.toList = q.f1.toList ∧ p.f4 = q.f4 ∧ eqL p.f6 q.f5 = true then (⟨7,p.f1,⟨#[]⟩,⟨#[]⟩,p.f4,p.f5,q.f6⟩,1,true)
  else if p.f0 = 10 ∧ q.f1.toList = p.f2.toList ∧ apartB p.f1 q.f2 = true then (⟨10,p.f1,q.f2,⟨#[]⟩,0,[],[]⟩,1,true)
  else (z25,0,false)
 else (z25,0,false)
def joinR : Option (Option S25) → S25 × Int × Bool
 | none => (z25,0,false)
 | some none => (z25,0,true)
 | some (some x) => (x,1,true)
theorem join_ten {p q : S25} (hp : primB p = true) (h0 : p.f0 = q.f0) :
  (if p.f0 = 10 ∧ q.f1.toList = p.f2.toList ∧ apartB p.f1 q.f2 = true then ((⟨10,p.f1,q.f2,⟨#[]⟩,0,[],[]⟩ : S25),(1 : Int),true) else (z25,0,false)) =
   joinR (if p.f0 = 10 ∧ q.f0 = 10 ∧ q.f1.toList = p.f2.toList ∧ apartB p.f1 q.f2 = true then some (some { p with f2:=q.f2 }) else none):=by
 by_cases h10 : p.f0 = 10 ∧ q.f1.toList = p.f2.toList ∧ apartB p.f1 q.f2 = true
 ·rw [if_pos h10,if_pos ⟨h10.1,h0.symm.trans h10.1,h10.2⟩]
  obtain ⟨p3,_,_,p5,p6,p4⟩:=prim_ten hp h10.1
  obtain ⟨a0,a1,a2,a3,a4,a5,a6⟩:=p
  obtain ⟨rfl,-⟩:=h10
  dsimp only at p3 p5 p6 p4
  subst p3 p5 p6 p4
  rfl
 ·rw [if_neg h10,if_neg (fun n => h10 ⟨n.1,n.2.2⟩)]
  rfl
theorem refJoin_eq (p q : S25) : refJoin p q = joinR (joinS p q):=by
 unfold refJoin joinS
 by_cases hr : primB p = true ∧ primB q = true
 ·rw [if_pos hr,if_pos hr]
  obtain ⟨hp,hq⟩:=hr
  by_cases he : eqS (invS p) q = true
  ·rw [if_pos he,if_pos he]
   rfl
  ·rw [if_neg he,if_neg he]
   by_cases h0 : p.f0 = q.f0
   ·rw [if_neg (fun n => n h0)]
    by_cases h1 : p.f1.toList = q.f1.toList
    ·have hh : hereB p q = true:=by unfold hereB; simp only [h0,h1,decide_true,Bool.and_self]
     by_cases h9 : p.f0 = 9 ∧ q.f3.toList = p.f2.toList
     ·rw [if_pos ⟨h9.1,h1,h9.2⟩,if_pos ⟨hh,h9.1,h9.2⟩]
      obtain ⟨_,p5,p6,p4⟩:=prim_nine hp h9.1
      obtain ⟨a0,a1,a2,a3,a4,a5,a6⟩:=p
      obtain ⟨rfl,-⟩:=h9
      dsimp only at p5 p6 p4
      subst p5 p6 p4
      rfl
     ·rw [if_neg (show ¬ (p.f0 = 9 ∧ p.f1.toList = q.f1.toList ∧ q.f3.toList = p.f2.toList) from fun n => h9 ⟨n.1,n.2.2⟩),if_neg (show ¬ (hereB p q = true ∧ p.f0 = 9 ∧ q.f3.toList = p.f2.toList) from fun n => h9 n.2)]
      by_cases h7 : p.f0 = 7 ∧ p.f4 = q.f4 ∧ eqL p.f6 q.f5 = true
      ·rw [if_pos ⟨h7.1,h1,h7.2⟩,if_pos ⟨hh,h7⟩]
       obtain ⟨p3,p2,-⟩:=prim_seven hp h7.1
       obtain ⟨a0,a1,a2,a3,a4,a5,a6⟩:=p
       obtain ⟨rfl,-⟩:=h7
       dsimp only at p3 p2
       subst p3 p2
       rfl
      ·rw [if_neg (show ¬ (p.f0 = 7 ∧ p.f1.toList = q.f1.toList ∧ p.f4 = q.f4 ∧ eqL p.f6 q.f5 = true) from fun n => h7 ⟨n.1,n.2.2⟩),if_neg (show ¬ (hereB p q = true ∧ p.f0 = 7 ∧ p.f4 = q.f4 ∧ eqL p.f6 q.f5 = true) from fun n => h7 n.2)]
       exact join_ten hp h0
    ·have hh : ¬ hereB p q = true:=fun e => h1 (by rw [(here_of e).2])
     rw [if_neg (show ¬ (p.f0 = 9 ∧ p.f1.toList = q.f1.toList ∧ q.f3.toList = p.f2.toList) from fun n => h1 n.2.1),if_neg (show ¬ (p.f0 = 7 ∧ p.f1.toList = q.f1.toList ∧ p.f4 = q.f4 ∧ eqL p.f6 q.f5 = true) from fun n => h1 n.2.1),if_neg (show ¬ (hereB p q = true ∧ p.f0 = 9 ∧ q.f3.toList = p.f2.toList) from fun n => hh n.1),if_neg (show ¬ (hereB p q = true ∧ p.f0 = 7 ∧ p.f4 = q.f4 ∧ eqL p.f6 q.f5 = true) from fun n => hh n.1)]
     exact join_ten hp h0
   ·have hh : ¬ hereB p q = true:=fun e => h0 (here_of e).1
    rw [if_pos h0,if_neg (show ¬ (hereB p q = true ∧ p.f0 = 9 ∧ q.f3.toList = p.f2.toList) from fun n => hh n.1),if_neg (show ¬ (hereB p q = true ∧ p.f0 = 7 ∧ p.f4 = q.f4 ∧ eqL p.f6 q.f5 = true) from fun n => hh n.1),if_neg (fun n => h0 (n.1.trans n.2.1.symm))]
    rfl
 ·rw [if_neg hr,if_neg hr]
  rfl
end Go.Proofs.YthhohbidjhcjeaaGreatDoor.Pl
namespace Go.Proofs.YthhohbidjhcjeaaGreatDoor.H
open Go.RowKit Go.Proofs.YthhohbidjhcjeaaGreatDoor.Q Go.Proofs.YthhohbidjhcjeaaGreatDoor.Pl
set_option linter.unusedVariables false
set_option linter.unusedSimpArgs false
/-- The paths that a patch is of. -/
def Rg (p : S25) (s : ByteArray) : Prop:=withinB s p.f1 = true ∨ (p.f0 = 10 ∧ withinB s p.f2 = true)
def isAdd (p : S25) : Prop:=p.f0 = 1 ∨ p.f0 = 3 ∨ p.f0 = 5
/-- Where a patch lays something new. -/
def tgt (p : S25) : ByteArray:=if p.f0 = 10 then p.f2 else p.f1
theorem self_mv (s t : ByteArray) : mv s s t = t:=by
 have:=mv_data (s:=s) (fr:=s) t (r:=[]) (by simp)
 exact data_inj (by rw [this]; simp)
/-- What is not a patch's own is as it was. -/
theorem do_else {l : List S41} {p : S25} (h : applyE l p = 0) {s : ByteArray} (hs : ¬ Rg p s) : findV (doL l p) s = findV l s:=by
 obtain ⟨ht,hp,hd⟩:=apply_zero.mp h
 have h1 : withinB s p.f1 = false:=by
  cases k : withinB s p.f1 with
  | false => rfl
  | true => exact absurd (.inl k) hs
 have hne : s ≠ p.f1:=fun e => by rw [e,within_refl] at h1; cases h1
 rcases kinds4 hp with hk | hk | ⟨h7,h9⟩ | h10
 ·obtain ⟨e1,e2⟩:=doE_add (l:=l) hk
  rw [e1] at hd
  rw [e2,ins_find ht.s (x:=newE p) (add_zero.mp hd).1]
  exact if_neg hne
 ·obtain ⟨e1,e2⟩:=doE_remove (l:=l) hk
  rw [e1] at hd
  rw [e2,del_find ht.s ((remove_zero ht.s).mp hd).1,if_neg hne]
 ·obtain ⟨e1,e2⟩:=doE_change (l:=l) h7 h9
  rw [e1] at hd
  obtain ⟨x,y,hx,hk,hc⟩:=change_zero.mp hd
  rw [e2,change_L hx hc,set_find ht.s hx ((change_f0 hc).1.trans (find_mem hx).2),if_neg hne]
 ·obtain ⟨e1,e2⟩:=doE_move (l:=l) h10
  rw [e1] at hd
  obtain ⟨⟨x0,hx0⟩,hn,hu,hr⟩:=move_zero.mp hd
  have h2 : withinB s p.f2 = false:=by
   cases k : withinB s p.f2 with
   | false => rfl
   | true => exact absurd (.inr ⟨h10,k⟩) hs
  rw [e2]
  unfold moveL
  rw [move_find ht.s (ht.none_within hn),h1,h2,if_neg (by simp),if_neg (by simp)]
/-- Behind a patch there is nothing at the path from which it moved, or took away; etc: what it writes hangs on its own paths alone. -/
theorem do_own {l k : List S41} {p : S25} (h : applyE l p = 0) (hk : Tr k) (hs : ∀ s,Rg p s → findV l s = findV k s) (hu : Up l (tgt p) → Up k (tgt p)) (hn : isAdd p → k.length ≠ 1024) :
  applyE k p = 0 ∧ ∀ s,Rg p s → findV (doL l p) s = findV (doL k p) s:=by
 obtain ⟨ht,hp,hd⟩:=apply_zero.mp h
 have hown : Rg p p.f1:=.inl (within_refl _)
 rw [apply_zero]
 refine (fun (z : doE k p = 0 ∧ ∀ s,Rg p s → findV (doL l p) s = findV (doL k p) s) => ⟨⟨hk,hp,z.1⟩,z.2⟩) ?_
 rcases kinds4 hp with hkd | hkd | ⟨h7,h9⟩ | h10
 ·obtain ⟨e1,e2⟩:=doE_add (l:=l) hkd
  obtain ⟨e3,e4⟩:=doE_add (l:=k) hkd
  rw [e1] at hd
  rw [e2,e3,e4]
  obtain ⟨g1,g2,g3⟩:=add_zero.mp hd
  have et : tgt p = p.f1:=if_neg (by omega)
  rw [et] at hu
  have g1' : findV k p.f1 = none:=by rw [← hs _ hown,g1]
  refine ⟨add_zero.mpr ⟨g1',hu g2,hn hkd⟩,fun s h => ?_⟩
  rw [ins_find ht.s (x:=newE p) g1,ins_find hk.s (x:=newE p) g1',hs s h]
 ·obtain ⟨e1,e2⟩:=doE_remove (l:=l) hkd
  obtain ⟨e3,e4⟩:=doE_remove (l:=k) hkd
  rw [e1] at hd
  rw [e2,e3,e4]
  obtain ⟨g1,g2⟩:=(remove_zero ht.s).mp hd
  have g1' : findV k p.f1 = some (newE p):=by rw [← hs _ hown,g1]
  refine ⟨(remove_zero hk.s).mpr ⟨g1',fun x hx hw => ?_⟩,fun s h => ?_⟩
  ·have hx':=find_of_mem hk.s hx
   rw [← hs _ (.inl hw)] at hx'
   exact g2 x (find_mem hx').1 hw
  ·rw [del_find ht.s g1,del_find hk.s g1',hs s h]
 ·obtain ⟨e1,e2⟩:=doE_change (l:=l) h7 h9
  obtain ⟨e3,e4⟩:=doE_change (l:=k) h7 h9
  rw [e1] at hd
  rw [e2,e3,e4]
  obtain ⟨x,y,hx,hkk,hc⟩:=change_zero.mp hd
  have hx' : findV k p.f1 = some x:=by rw [← hs _ hown,hx]
  have e:=(change_f0 hc).1.trans (find_mem hx).2
  refine ⟨change_zero.mpr ⟨x,y,hx',hkk,hc⟩,fun s h => ?_⟩
  rw [change_L hx hc,change_L hx' hc,set_find ht.s hx e,set_find hk.s hx' e,hs s h]
 ·obtain ⟨e1,e2⟩:=doE_move (l:=l) h10
  obtain ⟨e3,e4⟩:=doE_move (l:=k) h10
  rw [e1] at hd
  rw [e2,e3,e4]
  obtain ⟨⟨x0,hx0⟩,g1,g2,g3⟩:=move_zero.mp hd
  have et : tgt p = p.f2:=if_pos h10
  rw [et] at hu
  have g1' : findV k p.f2 = none:=by rw [← hs _ (.inr ⟨h10,within_refl _⟩),g1]
  have w1:=ht.none_within g1
  have w2:=hk.none_within g1'
  refine ⟨move_zero.mpr ⟨⟨x0,by rw [← hs _ hown,hx0]⟩,g1',hu g2,fun x hx => ?_⟩,fun s h => ?_⟩
  ·cases hw : withinB x.f0 p.f1 with
   | false => rw [mvP_out _ hw]; exact ((thing_iff x).mp (hk.t x hx)).1
   | true =>
    have hx':=find_of_mem hk.s hx
    rw [← hs _ (.inl hw)] at hx'
    exact g3 x (find_mem hx').1
  ·unfold moveL
   rw [move_find ht.s w1,move_find hk.s w2]
   cases k2 : withinB s p.f2 with
   | true =>
    rw [if_pos rfl,if_pos rfl,hs _ (.inl (mv_within p.f1 k2))]
   | false =>
    cases k1 : withinB s p.f1 with
    | true => simp only [Bool.false_eq_true,if_false,if_true]
    | false =>
     simp only [Bool.false_eq_true,if_false]
     exact hs s h
/-! ### lengths -/
def dLen (p : S25) : Int:=if p.f0 = 1 ∨ p.f0 = 3 ∨ p.f0 = 5 then 1 else if p.f0 = 2 ∨ p.f0 = 4 ∨ p.f0 = 6 then -1 else 0
theorem do_len {l : List S41} {p : S25} (h : applyE l p = 0) : ((doL l p).length : Int) = l.length + dLen p:=by
 obtain ⟨ht,hp,hd⟩:=apply_zero.mp h
 unfold dLen
 rcases kinds4 hp with hk | hk | ⟨h7,h9⟩ | h10
 ·obtain ⟨e1,e2⟩:=doE_add (l:=l) hk
  rw [e2,if_pos hk,ins_len]; omega
 ·obtain ⟨e1,e2⟩:=doE_remove (l:=l) hk
  rw [e1] at hd
  have:=del_len ht.s ((remove_zero ht.s).mp hd).1
  rw [e2,if_neg (by omega),if_pos hk]; omega
 ·obtain ⟨e1,e2⟩:=doE_change (l:=l) h7 h9
  rw [e2,if_neg (by omega),if_neg (by omega)]
  unfold changeL
  rw [set_len]; omega
 ·obtain ⟨e1,e2⟩:=doE_move (l:=l) h10
  rw [e2,if_neg (by omega),if_neg (by omega)]
  unfold moveL
  rw [sort_len,List.length_map]; omega
/-! ### apart ones -/
def Far (p q : S25) : Prop:=∀ s,¬ (Rg p s ∧ Rg q s)
/-- No directory of a new thing of one lies within the other's paths. -/
theorem far_up {l : List S41} {p q : S25} (h : applyE l p = 0) (hf : Far p q) (hq : Rg q (tgt q)) : Up (doL l p) (tgt q) ↔ Up l (tgt q):=by
 have key : ∀ u,parentV (tgt q) = some u → findV (doL l p) u = findV l u:=fun u hu => do_else h fun hr => by
  refine hf (tgt q) ⟨?_,hq⟩
  rcases hr with hr | ⟨h10,hr⟩
  ·exact .inl (within_trans (parent_within hu) hr)
  ·exact .inr ⟨h10,within_trans (parent_within hu) hr⟩
 unfold Up
 constructor
 ·intro k u hu
  obtain ⟨y,hy⟩:=k u hu
  rw [key u hu] at hy
  exact ⟨y,hy⟩
 ·intro k u hu
  obtain ⟨y,hy⟩:=k u hu
  rw [← key u hu] at hy
  exact ⟨y,hy⟩
theorem rg_tgt (p : S25) : Rg p (tgt p):=by
 unfold tgt
 split
 ·rename_i h; exact .inr ⟨h,within_refl _⟩
 ·exact .inl (within_refl _)
/-- Two patches that lie apart, done one behind the other, can be done the other way about (unless the tree is full), and make the same. -/
theorem swap_far {l : List S41} {p q : S25} (hf : Far p q) (h1 : applyE l p = 0) (h2 : applyE (doL l p) q = 0) (hn : isAdd q → l.length ≠ 1024) :
  applyE l q = 0 ∧ applyE (doL l q) p = 0 ∧ doL (doL l q) p = doL (doL l p) q:=by
 have hf' : Far q p:=fun s h => hf s h.symm
 have ht:=(apply_zero.mp h1).1
 have ht2:=apply_tree h2
 obtain ⟨a1,a2⟩:=do_own h2 ht (fun s hs => do_else h1 fun hr => hf s ⟨hr,hs⟩) (far_up h1 hf (rg_tgt q)).mp hn
 have ht3:=apply_tree a1
 have hlen : isAdd p → (doL l q).length ≠ 1024:=fun hp => by
  have e1:=do_len h1
  have e2:=do_len h2
  have e3:=do_len a1
  have e4 : dLen p = 1:=if_pos hp
  have:=ht2.n
  omega
 obtain ⟨b1,b2⟩:=do_own h1 ht3 (fun s hs => (do_else a1 fun hr => hf s ⟨hs,hr⟩).symm) (far_up a1 hf' (rg_tgt p)).mpr hlen
 refine ⟨a1,b1,srt_ext (apply_tree b1).s ht2.s fun s => ?_⟩
 by_cases hp : Rg p s
 ·have hq : ¬ Rg q s:=fun k => hf s ⟨hp,k⟩
  rw [← b2 s hp,do_else h2 hq]
 ·rw [do_else b1 hp]
  by_cases hq : Rg q s
  ·rw [← a2 s hq]
  ·rw [do_else a1 hq,do_else h2 hq,do_else h1 hp]
end Go.Proofs.YthhohbidjhcjeaaGreatDoor.H
namespace Go.Proofs.YthhohbidjhcjeaaGreatDoor.H
open Go.RowKit Go.Proofs.YthhohbidjhcjeaaGreatDoor.Q Go.Proofs.YthhohbidjhcjeaaGreatDoor.Pl
set_option linter.unusedVariables false
set_option linter.unusedSimpArgs false
/-- The same things, but for what one holds. -/
structure Like (l k : List S41) (s : ByteArray) (x y : S41) : Prop where
 tl : Tr l
 tk : Tr k
 x0 : findV l s = some x
 e0 : y.f0 = s
 e1 : y.f1 = x.f1
 f : ∀ t,findV k t = if t = s then some y else findV l t
theorem Like.of_set {l : List S41} {s : ByteArray} {x y : S41} (h : Tr l) (hx : findV l s = some x) (h0 : y.f0 = s) (h1 : y.f1 = x.f1) (hk : Tr (setL l s y)) : Like l (setL l s y) s x y :=
 ⟨h,hk,hx,h0,h1,set_find h.s hx h0⟩
theorem Like.symm {l k : List S41} {s : ByteArray} {x y : S41} (h : Like l k s x y) : Like k l s y x:=by
 refine ⟨h.tk,h.tl,?_,(find_mem h.x0).2,h.e1.symm,fun t => ?_⟩
 ·rw [h.f,if_pos rfl]
 ·rw [h.f]
  by_cases e : t = s
  ·rw [if_pos e,e,h.x0]
  ·rw [if_neg e,if_neg e]
theorem Like.none {l k : List S41} {s : ByteArray} {x y : S41} (h : Like l k s x y) {t : ByteArray} (ht : findV l t = none) : findV k t = none:=by
 rw [h.f,if_neg,ht]
 intro e
 rw [e,h.x0] at ht; cases ht
theorem Like.some {l k : List S41} {s : ByteArray} {x y : S41} (h : Like l k s x y) {t : ByteArray} {z : S41} (hz : findV l t = some z) : ∃ z',findV k t = some z' ∧ z'.f1 = z.f1:=by
 rw [h.f]
 by_cases e : t = s
 ·rw [if_pos e]
  rw [e,h.x0] at hz
  exact ⟨y,rfl,by rw [h.e1,Option.some.inj hz]⟩
 ·rw [if_neg e]; exact ⟨z,hz,rfl⟩
theorem Like.up {l k : List S41} {s : ByteArray} {x y : S41} (h : Like l k s x y) {t : ByteArray} (hu : Up l t) : Up k t:=fun u e => by
 obtain ⟨z,hz,k1⟩:=hu u e
 obtain ⟨z',hz',k2⟩:=h.some hz
 exact ⟨z',hz',by rw [k2,k1]⟩
theorem Like.mem {l k : List S41} {s : ByteArray} {x y : S41} (h : Like l k s x y) {z : S41} (hz : z ∈ k) : ∃ z',z' ∈ l ∧ z'.f0 = z.f0:=by
 obtain ⟨z',hz',_⟩:=h.symm.some (find_of_mem h.tk.s hz)
 exact ⟨z',(find_mem hz').1,(find_mem hz').2⟩
/-- What adds or takes away elsewhere can be done on both, and leaves them so. -/
theorem like_low {l k : List S41} {s : ByteArray} {x y : S41} (h : Like l k s x y) (hlen : k.length = l.length) {q : S25} (hq : primB q = true) (hk : q.f0 ≤ 6) (hne : q.f1 ≠ s) (h0 : applyE l q = 0) :
  applyE k q = 0 ∧ ∀ t,findV (doL k q) t = if t = s then some y else findV (doL l q) t:=by
 obtain ⟨_,_,hd⟩:=apply_zero.mp h0
 have hs : ¬ s = q.f1:=fun e => hne e.symm
 rw [apply_zero]
 refine (fun (z : doE k q = 0 ∧ _) => ⟨⟨h.tk,hq,z.1⟩,z.2⟩) ?_
 rcases kinds4 hq with hkd | hkd | ⟨h7,h9⟩ | h10
 ·obtain ⟨e1,e2⟩:=doE_add (l:=l) hkd
  obtain ⟨e3,e4⟩:=doE_add (l:=k) hkd
  rw [e1] at hd
  rw [e2,e3,e4]
  obtain ⟨g1,g2,g3⟩:=add_zero.mp hd
  refine ⟨add_zero.mpr ⟨h.none g1,h.up g2,by rw [hlen]; exact g3⟩,fun t => ?_⟩
  rw [ins_find h.tk.s (x:=newE q) (h.none g1),ins_find h.tl.s (x:=newE q) g1,h.f]
  have e : (newE q).f0 = q.f1:=rfl
  rw [e]
  by_cases a : t = q.f1
  ·rw [if_pos a,if_pos a,if_neg (by rw [a]; exact hne)]
  ·rw [if_neg a,if_neg a]
 ·obtain ⟨e1,e2⟩:=doE_remove (l:=l) hkd
  obtain ⟨e3,e4⟩:=doE_remove (l:=k) hkd
  rw [e1] at hd
  rw [e2,e3,e4]
  obtain ⟨g1,g2⟩:=(remove_zero h.tl.s).mp hd
  have g1' : findV k q.f1 = some (newE q):=by rw [h.f,if_neg hne,g1]
  refine ⟨(remove_zero h.tk.s).mpr ⟨g1',fun z hz hw => ?_⟩,fun t => ?_⟩
  ·obtain ⟨z',hz',e⟩:=h.mem hz
   rw [← e] at hw ⊢
   exact g2 z' hz' hw
  ·rw [del_find h.tk.s g1',del_find h.tl.s g1,h.f]
   by_cases a : t = q.f1
   ·rw [if_pos a,if_pos a,if_neg (by rw [a]; exact hne)]
   ·rw [if_neg a,if_neg a]
 ·omega
 ·omega
theorem like_move {l k : List S41} {s : ByteArray} {x y : S41} (h : Like l k s x y) {q : S25} (hq : primB q = true) (h10 : q.f0 = 10) (h0 : applyE l q = 0) : applyE k q = 0:=by
 obtain ⟨_,_,hd⟩:=apply_zero.mp h0
 rw [apply_zero]
 refine ⟨h.tk,hq,?_⟩
 rw [(doE_move h10).1] at hd ⊢
 obtain ⟨⟨x0,hx0⟩,g1,g2,g3⟩:=move_zero.mp hd
 obtain ⟨x1,hx1,_⟩:=h.some hx0
 refine move_zero.mpr ⟨⟨x1,hx1⟩,h.none g1,h.up g2,fun z hz => ?_⟩
 obtain ⟨z',hz',e⟩:=h.mem hz
 rw [← e]
 exact g3 z' hz'
/-- A change, done. -/
theorem change_do {l : List S41} {p : S25} (h : applyE l p = 0) (h7 : 7 ≤ p.f0) (h9 : p.f0 ≤ 9) : ∃ x y,findV l p.f1 = some x ∧ x.f1 = kindV p.f0 ∧ changeV x p = some y ∧ doL l p = setL l p.f1 y ∧ Like l (doL l p) p.f1 x y:=by
 obtain ⟨ht,hp,hd⟩:=apply_zero.mp h
 have hT:=apply_tree h
 rw [(doE_change h7 h9).1] at hd
 obtain ⟨x,y,hx,hk,hc⟩:=change_zero.mp hd
 have e : doL l p = setL l p.f1 y:=by rw [(doE_change h7 h9).2,change_L hx hc]
 refine ⟨x,y,hx,hk,hc,e,?_⟩
 rw [e] at hT ⊢
 exact Like.of_set ht hx ((change_f0 hc).1.trans (find_mem hx).2) (change_f0 hc).2 hT
theorem change_can {l : List S41} {p : S25} (ht : Tr l) (hp : primB p = true) (h7 : 7 ≤ p.f0) (h9 : p.f0 ≤ 9) {x y : S41} (hx : findV l p.f1 = some x) (hk : x.f1 = kindV p.f0) (hc : changeV x p = some y) : applyE l p = 0 ∧ ∀ t,findV (doL l p) t = if t = p.f1 then some y else findV l t:=by
 have h0 : applyE l p = 0:=apply_zero.mpr ⟨ht,hp,by rw [(doE_change h7 h9).1]; exact change_zero.mpr ⟨x,y,hx,hk,hc⟩⟩
 refine ⟨h0,fun t => ?_⟩
 rw [(doE_change h7 h9).2,change_L hx hc,set_find ht.s hx ((change_f0 hc).1.trans (find_mem hx).2)]
/-- What adds or takes away, and then a change of another thing. -/
theorem swap_low_change {l : List S41} {p q : S25} (hp6 : p.f0 ≤ 6) (h7 : 7 ≤ q.f0) (h9 : q.f0 ≤ 9) (hne : p.f1 ≠ q.f1) (h1 : applyE l p = 0) (h2 : applyE (doL l p) q = 0) :
  applyE l q = 0 ∧ applyE (doL l q) p = 0 ∧ doL (doL l q) p = doL (doL l p) q:=by
 obtain ⟨ht,hp,hd⟩:=apply_zero.mp h1
 obtain ⟨_,hq,_⟩:=apply_zero.mp h2
 obtain ⟨x,y,hx,hk,hc,e,L⟩:=change_do h2 h7 h9
 have hT2:=apply_tree h2
 have hf1 : ∀ t,t ≠ p.f1 → findV (doL l p) t = findV l t:=by
  intro t htn
  rcases kinds4 hp with hkd | hkd | ⟨a7,a9⟩ | a10
  ·obtain ⟨e1,e2⟩:=doE_add (l:=l) hkd
   rw [e1] at hd
   rw [e2,ins_find ht.s (x:=newE p) (add_zero.mp hd).1]
   exact if_neg htn
  ·obtain ⟨e1,e2⟩:=doE_remove (l:=l) hkd
   rw [e1] at hd
   rw [e2,del_find ht.s ((remove_zero ht.s).mp hd).1,if_neg htn]
  ·omega
  ·omega
 have hx' : findV l q.f1 = some x:=by rw [← hf1 _ hne.symm,hx]
 obtain ⟨a1,a2⟩:=change_can ht hq h7 h9 hx' hk hc
 obtain ⟨x',y',hx2,_,hc2,_,L2⟩:=change_do a1 h7 h9
 rw [hx'] at hx2
 have:=Option.some.inj hx2
 subst this
 rw [hc] at hc2
 have:=Option.some.inj hc2
 subst this
 have hl2:=do_len a1
 have hz : dLen q = 0:=by unfold dLen; rw [if_neg (by omega),if_neg (by omega)]
 obtain ⟨b1,b2⟩:=like_low L2 (by omega) hp hp6 hne h1
 refine ⟨a1,b1,srt_ext (apply_tree b1).s hT2.s fun s => ?_⟩
 rw [b2,L.f]
theorem swap_change_low {l : List S41} {p q : S25} (h7 : 7 ≤ p.f0) (h9 : p.f0 ≤ 9) (hq6 : q.f0 ≤ 6) (hne : p.f1 ≠ q.f1) (h1 : applyE l p = 0) (h2 : applyE (doL l p) q = 0) :
  applyE l q = 0 ∧ applyE (doL l q) p = 0 ∧ doL (doL l q) p = doL (doL l p) q:=by
 obtain ⟨ht,hp,hd⟩:=apply_zero.mp h1
 obtain ⟨_,hq,_⟩:=apply_zero.mp h2
 obtain ⟨x,y,hx,hk,hc,e,L⟩:=change_do h1 h7 h9
 have hl:=do_len h1
 have hz : dLen p = 0:=by unfold dLen; rw [if_neg (by omega),if_neg (by omega)]
 obtain ⟨a1,a2⟩:=like_low L.symm (by omega) hq hq6 hne.symm h2
 have hT:=apply_tree a1
 have hx' : findV (doL l q) p.f1 = some x:=by rw [a2,if_pos rfl]
 obtain ⟨b1,b2⟩:=change_can hT hp h7 h9 hx' hk hc
 refine ⟨a1,b1,srt_ext (apply_tree b1).s (apply_tree h2).s fun s => ?_⟩
 obtain ⟨c1,c2⟩:=like_low L (by omega) hq hq6 hne.symm a1
 rw [b2,c2]
/-- Two changes of unlike things. -/
theorem swap_changes {l : List S41} {p q : S25} (h7 : 7 ≤ p.f0) (h9 : p.f0 ≤ 9) (k7 : 7 ≤ q.f0) (k9 : q.f0 ≤ 9) (hne : p.f1 ≠ q.f1) (h1 : applyE l p = 0) (h2 : applyE (doL l p) q = 0) :
  applyE l q = 0 ∧ applyE (doL l q) p = 0 ∧ doL (doL l q) p = doL (doL l p) q:=by
 obtain ⟨ht,hp,hd⟩:=apply_zero.mp h1
 obtain ⟨ht2,hq,_⟩:=apply_zero.mp h2
 obtain ⟨x,y,hx,hk,hc,e,L⟩:=change_do h1 h7 h9
 obtain ⟨x2,y2,hx2,hk2,hc2,e2,L2⟩:=change_do h2 k7 k9
 have hx2' : findV l q.f1 = some x2:=by rw [L.f,if_neg hne.symm] at hx2; exact hx2
 obtain ⟨a1,a2⟩:=change_can ht hq k7 k9 hx2' hk2 hc2
 have hx' : findV (doL l q) p.f1 = some x:=by rw [a2,if_neg hne,hx]
 obtain ⟨b1,b2⟩:=change_can (apply_tree a1) hp h7 h9 hx' hk hc
 refine ⟨a1,b1,srt_ext (apply_tree b1).s (apply_tree h2).s fun s => ?_⟩
 rw [b2,a2,L2.f,L.f]
 by_cases u : s = p.f1
 ·rw [if_pos u,if_neg (by rw [u]; exact hne),if_pos u]
 ·rw [if_neg u,if_neg u]
/-- Two hunks in one text, with a line at least between them. -/
theorem hunks_behind {L M N old new old2 new2 : List ByteArray} {a b : Int} (h1 : hunkV L a old new = some M) (h2 : hunkV M b old2 new2 = some N) (hlt : a < b - (new.length : Int)) :
  ∃ M',hunkV L (b + ((old.length : Int) - (new.length : Int))) old2 new2 = some M' ∧ hunkV M' a old new = some N:=by
 obtain ⟨a0,A,B,rfl,hA,rfl⟩:=hunk_some h1
 obtain ⟨b0,C,D,hM,hC,rfl⟩:=hunk_some h2
 have hle : (A ++ new).length ≤ C.length:=by rw [List.length_append]; omega
 obtain ⟨E,hE⟩ : ∃ E,C = (A ++ new) ++ E:=by
  rw [List.append_assoc C] at hM
  rcases List.append_eq_append_iff.mp hM with ⟨u,h3,h4⟩ | ⟨u,h3,h4⟩
  ·exact ⟨u,h3⟩
  ·have:=congrArg List.length h3
   simp only [List.length_append] at this hle
   have hu : u = []:=List.length_eq_zero_iff.mp (by omega)
   exact ⟨[],by rw [h3,hu]; simp⟩
 subst hE
 have hB : B = E ++ (old2 ++ D):=by
  simp only [List.append_assoc] at hM
  have:=List.append_cancel_left hM
  exact List.append_cancel_left this
 subst hB
 refine ⟨A ++ old ++ E ++ new2 ++ D,?_,?_⟩
 ·have:=hunk_of (A ++ old ++ E) old2 D new2
  have hl : ((A ++ old ++ E).length : Int) = b + ((old.length : Int) - (new.length : Int)):=by
   simp only [List.length_append] at hC ⊢
   omega
  rw [hl] at this
  simpa only [List.append_assoc] using this
 ·have:=hunk_of A old (E ++ new2 ++ D) new
  rw [show (A.length : Int) = a by omega] at this
  simpa only [List.append_assoc] using this
theorem hunks_ahead {L M N old new old2 new2 : List ByteArray} {a b : Int} (h1 : hunkV L a old new = some M) (h2 : hunkV M b old2 new2 = some N) (hlt : b < a - (old2.length : Int)) :
  ∃ M',hunkV L b old2 new2 = some M' ∧ hunkV M' (a + ((new2.length : Int) - (old2.length : Int))) old new = some N:=by
 obtain ⟨a0,A,B,rfl,hA,rfl⟩:=hunk_some h1
 obtain ⟨b0,C,D,hM,hC,rfl⟩:=hunk_some h2
 obtain ⟨E,hE⟩ : ∃ E,A = (C ++ old2) ++ E:=by
  rw [List.append_assoc A] at hM
  have hM':=hM
  rcases List.append_eq_append_iff.mp hM' with ⟨u,h3,h4⟩ | ⟨u,h3,h4⟩
  ·have:=congrArg List.length h3
   rw [List.length_append] at this
   have hu : u = []:=List.length_eq_zero_iff.mp (by rw [List.length_append] at this; omega)
   exact ⟨[],by rw [hu] at h3; rw [h3]; simp⟩
  ·exact ⟨u,h3⟩
 subst hE
 have hD : D = E ++ (new ++ B):=by
  simp only [List.append_assoc] at hM
  have:=List.append_cancel_left hM
  exact (List.append_cancel_left this).symm
 subst hD
 refine ⟨C ++ new2 ++ E ++ old ++ B,?_,?_⟩
 ·have:=hunk_of C old2 (E ++ old ++ B) new2
  rw [show (C.length : Int) = b by omega] at this
  simpa only [List.append_assoc] using this
 ·have:=hunk_of (C ++ new2 ++ E) old B new
  have hl : ((C ++ new2 ++ E).length : Int) = a + ((new2.length : Int) - (old2.length : Int)):=by
   simp only [List.length_append] at hA ⊢
   omega
  rw [hl] at this
  simpa only [List.append_assoc] using this
/-- Two hunks of one text. -/
theorem swap_hunks {l : List S41} {p q p' q' : S25} (h7 : p.f0 = 7) (k7 : q.f0 = 7) (he : p.f1 = q.f1) (hq' : primB q' = true) (hp' : primB p' = true)
  (ep : p' = { p with f4:=p'.f4 }) (eq : q' = { q with f4:=q'.f4 })
  (hat : (p.f4 < q.f4 - (p.f6.length : Int) ∧ q'.f4 = q.f4 + ((p.f5.length : Int) - (p.f6.length : Int)) ∧ p'.f4 = p.f4) ∨ (q.f4 < p.f4 - (q.f5.length : Int) ∧ q'.f4 = q.f4 ∧ p'.f4 = p.f4 + ((q.f6.length : Int) - (q.f5.length : Int))))
  (h1 : applyE l p = 0) (h2 : applyE (doL l p) q = 0) : applyE l q' = 0 ∧ applyE (doL l q') p' = 0 ∧ doL (doL l q') p' = doL (doL l p) q:=by
 obtain ⟨ht,hp,hd⟩:=apply_zero.mp h1
 obtain ⟨x,y,hx,hk,hc,e,L⟩:=change_do h1 (by omega) (by omega)
 obtain ⟨x2,y2,hx2,hk2,hc2,e2,L2⟩:=change_do h2 (by omega) (by omega)
 have q0 : q'.f0 = 7:=by rw [eq]; exact k7
 have q1 : q'.f1 = p.f1:=by rw [eq,he]
 have q5 : q'.f5 = q.f5:=by rw [eq]
 have q6 : q'.f6 = q.f6:=by rw [eq]
 have p0 : p'.f0 = 7:=by rw [ep]; exact h7
 have p1 : p'.f1 = p.f1:=by rw [ep]
 have p5 : p'.f5 = p.f5:=by rw [ep]
 have p6 : p'.f6 = p.f6:=by rw [ep]
 rw [L.f,if_pos he.symm] at hx2
 have:=Option.some.inj hx2
 subst this
 unfold changeV at hc hc2
 rw [if_pos h7] at hc
 rw [if_pos k7] at hc2
 obtain ⟨M,hM,rfl⟩:=Option.map_eq_some_iff.mp hc
 obtain ⟨N,hN,rfl⟩:=Option.map_eq_some_iff.mp hc2
 obtain ⟨M',hM',hN'⟩ : ∃ M',hunkV x.f2 q'.f4 q.f5 q.f6 = some M' ∧ hunkV M' p'.f4 p.f5 p.f6 = some N:=by
  rcases hat with ⟨c1,c2,c3⟩ | ⟨c1,c2,c3⟩
  ·rw [c2,c3]; exact hunks_behind hM hN c1
  ·rw [c2,c3]; exact hunks_ahead hM hN c1
 have d1 : changeV x q' = some { x with f2:=M' }:=by
  unfold changeV
  rw [if_pos q0,q5,q6,hM']
  rfl
 have hxq : findV l q'.f1 = some x:=by rw [q1,hx]
 obtain ⟨a1,a2⟩:=change_can ht hq' (by omega) (by omega) hxq (by rw [q0,hk,h7]) d1
 have hxp : findV (doL l q') p'.f1 = some { x with f2:=M' }:=by rw [a2,if_pos (by rw [p1,q1])]
 have d2 : changeV { x with f2:=M' } p' = some { x with f2:=N }:=by
  unfold changeV
  rw [if_pos p0,p5,p6]
  show Option.map _ (hunkV M' p'.f4 p.f5 p.f6) = _
  rw [hN']
  rfl
 obtain ⟨b1,b2⟩:=change_can (apply_tree a1) hp' (by omega) (by omega) hxp (by rw [p0]; show x.f1 = _; rw [hk,h7]) d2
 refine ⟨a1,b1,srt_ext (apply_tree b1).s (apply_tree h2).s fun s => ?_⟩
 rw [b2,a2,L2.f,L.f,p1,q1,← he]
 by_cases u : s = p.f1
 ·rw [if_pos u,if_pos u]
 ·rw [if_neg u,if_neg u,if_neg u,if_neg u]
/-! ### changes and moves -/
theorem change_path {x y : S41} {p : S25} (s t : ByteArray) (h : changeV x p = some y) : changeV { x with f0:=s } { p with f1:=t } = some { y with f0:=s }:=by
 unfold changeV at h ⊢
 by_cases h7 : p.f0 = 7
 ·rw [if_pos h7] at h
  show (if p.f0 = 7 then _ else _) = _
  rw [if_pos h7]
  obtain ⟨M,hM,rfl⟩:=Option.map_eq_some_iff.mp h
  show Option.map _ (hunkV x.f2 p.f4 p.f5 p.f6) = _
  rw [hM]; rfl
 ·rw [if_neg h7] at h
  show (if p.f0 = 7 then _ else if p.f0 = 8 then _ else _) = _
  rw [if_neg h7]
  by_cases h8 : p.f0 = 8
  ·rw [if_pos h8] at h ⊢
   obtain ⟨M,hM,rfl⟩:=Option.map_eq_some_iff.mp h
   show Option.map _ (tokV x.f2 p.f3 p.f2) = _
   rw [hM]; rfl
  ·rw [if_neg h8] at h ⊢
   by_cases h3 : x.f3 = p.f3
   ·rw [if_pos h3] at h
    rw [← Option.some.inj h]
    exact if_pos h3
   ·rw [if_neg h3] at h; cases h
/-- Where something lies behind a move. -/
def Goes (s fr to_ s' : ByteArray) : Prop:=(withinB s fr = true ∧ s' = mv s fr to_) ∨ (withinB s fr = false ∧ withinB s to_ = false ∧ s' = s)
theorem move_look {l : List S41} {q : S25} (h : applyE l q = 0) (h10 : q.f0 = 10) : (∀ x ∈ l,withinB x.f0 q.f2 = false) ∧ apartB q.f1 q.f2 = true ∧ ∀ t,findV (doL l q) t = if withinB t q.f2 then (findV l (mv t q.f2 q.f1)).bind (fun x => if withinB (mv t q.f2 q.f1) q.f1 then some { x with f0:=t } else none) else if withinB t q.f1 then none else findV l t:=by
 obtain ⟨ht,hp,hd⟩:=apply_zero.mp h
 rw [(doE_move h10).1] at hd
 obtain ⟨_,g1,_,_⟩:=move_zero.mp hd
 refine ⟨ht.none_within g1,(prim_move hp h10).2,fun t => ?_⟩
 rw [(doE_move h10).2]
 exact move_find ht.s (ht.none_within g1) t
theorem goes_find {l : List S41} {q : S25} (h : applyE l q = 0) (h10 : q.f0 = 10) {s s' : ByteArray} (hg : Goes s q.f1 q.f2 s') {x : S41} : findV l s = some x → findV (doL l q) s' = some { x with f0:=s' }:=by
 intro hx
 obtain ⟨m1,m2,m3⟩:=move_look h h10
 rw [m3]
 rcases hg with ⟨g1,rfl⟩ | ⟨g1,g2,rfl⟩
 ·rw [mv_within _ g1,if_pos rfl,mv_back _ g1,hx,Option.bind_some,g1,if_pos rfl]
 ·rw [g2,if_neg (by simp),g1,if_neg (by simp),hx]
  have:=(find_mem hx).2
  rw [← this]
theorem goes_back {l : List S41} {q : S25} (h : applyE l q = 0) (h10 : q.f0 = 10) {s s' : ByteArray} (hg : Goes s q.f1 q.f2 s') {x : S41} : findV (doL l q) s' = some x → findV l s = some { x with f0:=s }:=by
 intro hx
 obtain ⟨m1,m2,m3⟩:=move_look h h10
 rw [m3] at hx
 rcases hg with ⟨g1,rfl⟩ | ⟨g1,g2,rfl⟩
 ·rw [mv_within _ g1,if_pos rfl,mv_back _ g1] at hx
  obtain ⟨z,hz,e⟩:=Option.bind_eq_some_iff.mp hx
  rw [g1,if_pos rfl] at e
  rw [hz,← Option.some.inj e]
  have:=(find_mem hz).2
  rw [← this]
 ·rw [g2,if_neg (by simp),g1,if_neg (by simp)] at hx
  rw [hx]
  have:=(find_mem hx).2
  rw [← this]
theorem goes_inj {s fr to_ s' : ByteArray} (hg : Goes s fr to_ s') : withinB s' fr = true → apartB fr to_ = true → False:=by
 intro h ap
 obtain ⟨a1,a2⟩:=apart_within ap
 rcases hg with ⟨g1,rfl⟩ | ⟨g1,g2,rfl⟩
 ·rcases within_line (mv_within to_ g1) h with k | k
  ·rw [a2] at k; cases k
  ·rw [a1] at k; cases k
 ·rw [g1] at h; cases h
/-- A change, and then a move: the move first, and the change where the thing lies then. -/
theorem swap_change_move {l : List S41} {p q p' : S25} (h7 : 7 ≤ p.f0) (h9 : p.f0 ≤ 9) (h10 : q.f0 = 10) (hp' : primB p' = true) (ep : p' = { p with f1:=p'.f1 }) (hg : Goes p.f1 q.f1 q.f2 p'.f1)
  (h1 : applyE l p = 0) (h2 : applyE (doL l p) q = 0) : applyE l q = 0 ∧ applyE (doL l q) p' = 0 ∧ doL (doL l q) p' = doL (doL l p) q:=by
 obtain ⟨ht,hp,hd⟩:=apply_zero.mp h1
 obtain ⟨_,hq,_⟩:=apply_zero.mp h2
 obtain ⟨x,y,hx,hk,hc,e,L⟩:=change_do h1 h7 h9
 have a1:=like_move L.symm hq h10 h2
 have hx':=goes_find a1 h10 hg hx
 have p0 : p'.f0 = p.f0:=by rw [ep]
 have hc':=change_path p'.f1 p'.f1 hc
 rw [← ep] at hc'
 obtain ⟨b1,b2⟩:=change_can (apply_tree a1) hp' (by omega) (by omega) hx' (by rw [p0]; exact hk) hc'
 refine ⟨a1,b1,srt_ext (apply_tree b1).s (apply_tree h2).s fun s => ?_⟩
 obtain ⟨m1,ap,m3⟩:=move_look a1 h10
 obtain ⟨n1,_,n3⟩:=move_look h2 h10
 have hy : findV (doL l p) p.f1 = some y:=by rw [L.f,if_pos rfl]
 by_cases u : s = p'.f1
 ·rw [b2,if_pos u,u]
  exact (goes_find h2 h10 hg hy).symm
 ·rw [b2,if_neg u,m3,n3]
  cases w2 : withinB s q.f2 with
  | true =>
   rw [if_pos rfl,if_pos rfl,L.f,if_neg]
   intro e'
   rcases hg with ⟨g1,g3⟩ | ⟨g1,g2,g3⟩
   ·rw [← e',mv_back _ w2] at g3; exact u g3.symm
   ·have:=mv_within q.f1 w2
    rw [e',g1] at this; cases this
  | false =>
   cases w1 : withinB s q.f1 with
   | true => simp only [Bool.false_eq_true,if_false,if_true]
   | false =>
    simp only [Bool.false_eq_true,if_false]
    rw [L.f,if_neg]
    intro e'
    rcases hg with ⟨g1,g3⟩ | ⟨g1,g2,g3⟩
    ·rw [← e',w1] at g1; cases g1
    ·rw [g3,← e'] at u; exact u rfl
/-- A move, and then a change: the change first, where the thing lay. -/
theorem swap_move_change {l : List S41} {p q q' : S25} (h10 : p.f0 = 10) (h7 : 7 ≤ q.f0) (h9 : q.f0 ≤ 9) (hq' : primB q' = true) (eq : q' = { q with f1:=q'.f1 }) (hg : Goes q'.f1 p.f1 p.f2 q.f1)
  (h1 : applyE l p = 0) (h2 : applyE (doL l p) q = 0) : applyE l q' = 0 ∧ applyE (doL l q') p = 0 ∧ doL (doL l q') p = doL (doL l p) q:=by
 obtain ⟨ht,hp,hd⟩:=apply_zero.mp h1
 obtain ⟨_,hq,_⟩:=apply_zero.mp h2
 obtain ⟨x,y,hx,hk,hc,e,L⟩:=change_do h2 h7 h9
 have hx':=goes_back h1 h10 hg hx
 have q0 : q'.f0 = q.f0:=by rw [eq]
 have hc':=change_path q'.f1 q'.f1 hc
 rw [← eq] at hc'
 obtain ⟨a1,a2⟩:=change_can ht hq' (by omega) (by omega) hx' (by rw [q0]; exact hk) hc'
 obtain ⟨x2,y2,hx2,hk2,hc2,e2,L2⟩:=change_do a1 (by omega) (by omega)
 have b1:=like_move L2 hp h10 h1
 have eq2 : q = { q' with f1:=q.f1 }:=by rw [eq]
 obtain ⟨c1,c2,c3⟩:=swap_change_move (p':=q) (by omega) (by omega) h10 hq eq2 hg a1 b1
 exact ⟨a1,b1,c3.symm⟩
end Go.Proofs.YthhohbidjhcjeaaGreatDoor.H
namespace Go.Proofs.YthhohbidjhcjeaaGreatDoor.H
open Go.RowKit Go.Proofs.YthhohbidjhcjeaaGreatDoorW.PrintWords Go.Proofs.YthhohbidjhcjeaaGreatDoorW.PrintLast Go.Proofs.YthhohbidjhcjeaaGreatDoorW.PrintMore
open Go.Proofs.YthhohbidjhcjeaaGreatDoor.Q Go.Proofs.YthhohbidjhcjeaaGreatDoor.Pl
set_option linter.unusedVariables false
set_option linter.unusedSimpArgs false
theorem far_of {p q : S25} (h : apartL (pathsS p) (pathsS q) = true) : Far p q:=by
 have mem : ∀ (p : S25) (s : ByteArray),Rg p s → ∃ x ∈ pathsS p,withinB s x = true:=by
  rintro p s (h | ⟨h10,h⟩)
  ·refine ⟨p.f1,?_,h⟩
   unfold pathsS
   split <;> simp
  ·refine ⟨p.f2,?_,h⟩
   unfold pathsS
   rw [if_pos h10]
   simp
 rintro s ⟨hp,hq⟩
 obtain ⟨x,hx,h1⟩:=mem p s hp
 obtain ⟨y,hy,h2⟩:=mem q s hq
 unfold apartL at h
 have ha : apartB x y = true:=List.all_eq_true.1 (List.all_eq_true.1 h x hx) y hy
 obtain ⟨n1,n2⟩:=apart_within ha
 rcases within_line h1 h2 with k | k
 ·rw [n1] at k; cases k
 ·rw [n2] at k; cases k
theorem goes_carry (s fr dst : ByteArray) (h : (carryS s fr dst).2 = true) : Goes s fr dst (carryS s fr dst).1:=by
 cases hw : withinB s fr with
 | true => rw [carry_yes hw]; exact .inl ⟨hw,rfl⟩
 | false =>
  rw [carry_no hw] at h ⊢
  exact .inr ⟨hw,by simpa using h,rfl⟩
theorem carry_goes (s fr dst : ByteArray) (h : (carryS s fr dst).2 = true) : Goes (carryS s fr dst).1 dst fr s:=by
 cases hw : withinB s fr with
 | true => rw [carry_yes hw]; exact .inl ⟨mv_within dst hw,(mv_back dst hw).symm⟩
 | false =>
  rw [carry_no hw] at h ⊢
  exact .inr ⟨by simpa using h,hw,rfl⟩
theorem ne_toList {a b : ByteArray} (h : (a.toList != b.toList) = true) : a ≠ b:=by
 rintro rfl
 simp at h
/-- What the rule lets pass, makes the same tree the other way about. -/
theorem swap_yes {l : List S41} {p q a b : S25} (hy : Yes p q a b) (sp : Okp p) (sq : Okp q) (h1 : applyE l p = 0) (h2 : applyE (doL l p) q = 0) (hn : isAdd q → l.length ≠ 1024) :
  applyE l a = 0 ∧ applyE (doL l a) b = 0 ∧ doL (doL l a) b = doL (doL l p) q:=by
 obtain ⟨p1,p2⟩:=primB_lo hy.hp
 obtain ⟨q1,q2⟩:=primB_lo hy.hq
 have hr:=hy.r
 unfold ruleS at hr
 by_cases hp10 : p.f0 = 10
 ·rw [if_pos hp10] at hr
  by_cases hq10 : q.f0 = 10
  ·rw [if_pos hq10] at hr
   obtain ⟨rfl,rfl,hf⟩:=prod3 hr
   exact swap_far (far_of hf) h1 h2 hn
  ·rw [if_neg hq10] at hr
   by_cases hq7 : 7 ≤ q.f0
   ·rw [if_pos hq7] at hr
    obtain ⟨rfl,ea,hf⟩:=prod3 hr
    have hg : Goes a.f1 p.f1 p.f2 q.f1:=by
     rw [← ea]
     exact carry_goes q.f1 p.f2 p.f1 hf
    exact swap_move_change hp10 hq7 (by omega) hy.ha (by rw [← ea]) hg h1 h2
   ·rw [if_neg hq7] at hr
    obtain ⟨rfl,rfl,hf⟩:=prod3 hr
    exact swap_far (far_of hf) h1 h2 hn
 ·rw [if_neg hp10] at hr
  by_cases hp7 : 7 ≤ p.f0
  ·rw [if_pos hp7] at hr
   by_cases hq10 : q.f0 = 10
   ·rw [if_pos hq10] at hr
    obtain ⟨eb,rfl,hf⟩:=prod3 hr
    have hg : Goes p.f1 q.f1 q.f2 b.f1:=by
     rw [← eb]
     exact goes_carry p.f1 q.f1 q.f2 hf
    exact swap_change_move hp7 (by omega) hq10 hy.hb (by rw [← eb]) hg h1 h2
   ·rw [if_neg hq10] at hr
    by_cases hq7 : 7 ≤ q.f0
    ·rw [if_pos hq7] at hr
     unfold bothS at hr
     by_cases he : p.f1.toList = q.f1.toList
     ·rw [if_pos he] at hr
      by_cases h77 : p.f0 = 7 ∧ q.f0 = 7
      ·rw [if_pos h77] at hr
       obtain ⟨_,_,a0,a1,_⟩:=prim_seven hy.hp h77.1
       obtain ⟨_,_,t0,t1,_⟩:=prim_seven hy.hq h77.2
       have k5:=sp.ok.1
       have k6:=sp.ok.2
       have j5:=sq.ok.1
       have j6:=sq.ok.2
       rw [wrap_id (i:=q.f4 - (p.f6.length : Int)) (by omega) (by omega),wrap_id (i:=p.f4 - (q.f5.length : Int)) (by omega) (by omega),
        wrap_id (i:=(p.f5.length : Int) - (p.f6.length : Int)) (by omega) (by omega),wrap_id (i:=(q.f6.length : Int) - (q.f5.length : Int)) (by omega) (by omega),
        wrap_id (i:=q.f4 + ((p.f5.length : Int) - (p.f6.length : Int))) (by omega) (by omega),wrap_id (i:=p.f4 + ((q.f6.length : Int) - (q.f5.length : Int))) (by omega) (by omega)] at hr
       have hpe : p.f1 = q.f1:=toList_inj he
       by_cases hb : q.f4 - (p.f6.length : Int) > p.f4
       ·rw [if_pos hb] at hr
        obtain ⟨rfl,ea,_⟩:=prod3 hr
        exact swap_hunks h77.1 h77.2 hpe hy.ha hy.hb rfl (by rw [← ea]) (.inl ⟨by omega,by rw [← ea],rfl⟩) h1 h2
       ·rw [if_neg hb] at hr
        by_cases hb2 : p.f4 - (q.f5.length : Int) > q.f4
        ·rw [if_pos hb2] at hr
         obtain ⟨eb,rfl,_⟩:=prod3 hr
         exact swap_hunks h77.1 h77.2 hpe hy.ha hy.hb (by rw [← eb]) rfl (.inr ⟨by omega,rfl,by rw [← eb]⟩) h1 h2
        ·rw [if_neg hb2] at hr
         cases (prod3 hr).2.2
      ·rw [if_neg h77] at hr
       cases (prod3 hr).2.2
     ·rw [if_neg he] at hr
      obtain ⟨rfl,rfl,_⟩:=prod3 hr
      exact swap_changes hp7 (by omega) hq7 (by omega) (fun e => he (by rw [e])) h1 h2
    ·rw [if_neg hq7] at hr
     obtain ⟨rfl,rfl,hf⟩:=prod3 hr
     exact swap_change_low hp7 (by omega) (by omega) (ne_toList hf) h1 h2
  ·rw [if_neg hp7] at hr
   by_cases hq10 : q.f0 = 10
   ·rw [if_pos hq10] at hr
    obtain ⟨rfl,rfl,hf⟩:=prod3 hr
    exact swap_far (far_of hf) h1 h2 hn
   ·rw [if_neg hq10] at hr
    by_cases hq7 : 7 ≤ q.f0
    ·rw [if_pos hq7] at hr
     obtain ⟨rfl,rfl,hf⟩:=prod3 hr
     exact swap_low_change (by omega) hq7 (by omega) (ne_toList hf) h1 h2
    ·rw [if_neg hq7] at hr
     obtain ⟨rfl,rfl,hf⟩:=prod3 hr
     exact swap_far (far_of hf) h1 h2 hn
/-- A new thing into a full tree, that something was taken out of first: the other way about there is no room. -/
theorem swap_full {l : List S41} {p q a b : S25} (hy : Yes p q a b) (h1 : applyE l p = 0) (h2 : applyE (doL l p) q = 0) (hq : isAdd q) (hl : l.length = 1024) : applyE l a = 2:=by
 have e1:=do_len h1
 have ht:=(apply_zero.mp h1).1
 have ht2:=apply_tree h1
 obtain ⟨_,hqp,hd⟩:=apply_zero.mp h2
 have hq0 : ¬ q.f0 = 10 ∧ ¬ 7 ≤ q.f0:=by unfold isAdd at hq; omega
 have hda : doE (doL l p) q = addE (doL l p) q:=by
  unfold doE
  rw [if_neg hq0.1,if_neg hq0.2,if_pos (show q.f0 = 1 ∨ q.f0 = 3 ∨ q.f0 = 5 from hq)]
 rw [hda] at hd
 obtain ⟨f1,f2,f3⟩:=add_zero.mp hd
 have hlow : ¬ p.f0 = 10 ∧ ¬ 7 ≤ p.f0:=by
  have:=ht2.n
  unfold dLen at e1
  split at e1
  ·omega
  ·split at e1 <;> omega
 have hr:=hy.r
 unfold ruleS at hr
 rw [if_neg hlow.1,if_neg hlow.2,if_neg hq0.1,if_neg hq0.2] at hr
 obtain ⟨rfl,rfl,hf⟩:=prod3 hr
 have hfar:=far_of hf
 have hte : tgt q = q.f1:=by unfold tgt; rw [if_neg hq0.1]
 have hup:=(far_up h1 hfar (rg_tgt q)).mp (by rw [hte]; exact f2)
 rw [hte] at hup
 have hfi : findV l q.f1 = none:=by
  rw [← do_else h1 (s:=q.f1) (fun k => hfar q.f1 ⟨k,.inl (within_refl _)⟩)]
  exact f1
 unfold applyE
 rw [if_pos (by rw [tree_iff.2 ht,hqp]; rfl)]
 unfold doE
 rw [if_neg hq0.1,if_neg hq0.2,if_pos (show q.f0 = 1 ∨ q.f0 = 3 ∨ q.f0 = 5 from hq)]
 unfold addE
 rw [if_pos (room_zero.2 ⟨hfi,hup⟩),if_pos hl]
/-- Two patches done on a tree, and commuted. -/
theorem swap_two {l k : List S41} {p q a b : S25} (hy : Yes p q a b) (sp : Okp p) (sq : Okp q) (h : runV l [p,q] = some k) :
  runV l [a,b] = some k ∨ (∀ i,allV l [a,b] i = ([],2,i)) ∧ 1024 ≤ l.length:=by
 have h' : (if applyE l p = 0 then (if applyE (doL l p) q = 0 then some (doL (doL l p) q) else none) else none) = some k:=h
 split at h'
 ·rename_i h1
  split at h'
  ·rename_i h2
   cases h'
   by_cases hn : isAdd q ∧ l.length = 1024
   ·refine .inr ⟨fun i => ?_,by omega⟩
    have h2':=swap_full hy h1 h2 hn.1 hn.2
    show (if applyE l a = 0 then _ else ([],applyE l a,i)) = _
    rw [h2',if_neg (by decide)]
   ·obtain ⟨r1,r2,r3⟩:=swap_yes hy sp sq h1 h2 (fun h e => hn ⟨h,e⟩)
    refine .inl ?_
    show (if applyE l a = 0 then (if applyE (doL l a) b = 0 then some (doL (doL l a) b) else none) else none) = _
    rw [if_pos r1,if_pos r2,r3]
  ·cases h'
 ·cases h'
theorem do_len_le {l : List S41} {p : S25} (h : applyE l p = 0) : (doL l p).length ≤ l.length + 1:=by
 have:=do_len h
 unfold dLen at this
 split at this
 ·omega
 ·split at this <;> omega
/-- One that passes several. -/
theorem past_runs : ∀ (ps : List S25) (p : S25) (l k : List S41) (ds : List S25) (b : S25) (i : Nat),pastS p ps = some (ds,b) → (∀ x ∈ ps,Okp x) → Okp p → runV l (p :: ps) = some k →
  runV l (ds ++ [b]) = some k ∨ (∃ j,allV l (ds ++ [b]) i = ([],2,j)) ∧ 1024 ≤ l.length + (ps.length + 1)
 | [],p,l,k,ds,b,i,hs,ho,hp,h => by
  have hs' : some (([] : List S25),p) = some (ds,b):=hs
  cases hs'
  exact .inl h
 | q :: qs,p,l,k,ds,b,i,hs,ho,hp,h => by
  have hq:=ho q (List.mem_cons_self ..)
  have h' : (if applyE l p = 0 then (if applyE (doL l p) q = 0 then runV (doL (doL l p) q) qs else none) else none) = some k:=h
  split at h'
  ·rename_i h1
   split at h'
   ·rename_i h2
    rcases comm_or p q with e | ⟨x,y,hy,e⟩
    ·unfold pastS at hs
     rw [e] at hs
     cases hs
    ·unfold pastS at hs
     rw [e] at hs
     obtain ⟨⟨ds',b'⟩,hs',hz⟩:=Option.map_eq_some_iff.mp (show (pastS y qs).map (fun z => (x :: z.1,z.2)) = some (ds,b) from hs)
     simp only [Prod.mk.injEq] at hz
     obtain ⟨rfl,rfl⟩:=hz
     by_cases hn : isAdd q ∧ l.length = 1024
     ·refine .inr ⟨⟨i,?_⟩,by omega⟩
      have h2':=swap_full hy h1 h2 hn.1 hn.2
      show (if applyE l x = 0 then _ else ([],applyE l x,i)) = _
      rw [h2',if_neg (by decide)]
     ·obtain ⟨r1,r2,r3⟩:=swap_yes hy hp hq h1 h2 (fun h e => hn ⟨h,e⟩)
      have hrun : runV (doL l x) (y :: qs) = some k:=by
       show (if applyE (doL l x) y = 0 then runV (doL (doL l x) y) qs else none) = some k
       rw [if_pos r2,r3]
       exact h'
      rcases past_runs qs y (doL l x) k ds' b' (i + 1) hs' (fun z hz => ho z (List.mem_cons_of_mem _ hz)) (okp_yes hy hp hq).2 hrun with g | ⟨⟨j,g⟩,g2⟩
      ·refine .inl ?_
       show (if applyE l x = 0 then runV (doL l x) (ds' ++ [b']) else none) = some k
       rw [if_pos r1,g]
      ·refine .inr ⟨⟨j,?_⟩,?_⟩
       ·show (if applyE l x = 0 then allV (doL l x) (ds' ++ [b']) (i + 1) else _) = _
        rw [if_pos r1,g]
       ·have:=do_len_le r1
        rw [List.length_cons]
        omega
   ·cases h'
  ·cases h'
end Go.Proofs.YthhohbidjhcjeaaGreatDoor.H
