/- What the reference's Commute calls, over its four boxes. -/
import Derived.Test.YthhohbidjhcjeaaDoorTM3
import Derived.Test.YthhohbidjhcjeaaDoorTM5
import Derived.Test.YthhohbidjhcjeaaDoorTM4
import Derived.Shelf.SlicesQ.Reverse
import Derived.Ground.SlgnProg
import Derived.Test.YthhohbidjhcjeaaDoorTM1
import Derived.RangeFuncNested
import Derived.RangeFuncBound
import Derived.RangeFuncCalls
import Derived.RangeFuncLeaves
import Derived.Shelf.Abstract
import Derived.Shelf.RegionOpen
import Derived.WalkKit
import Derived.OwnWalkIn
import Derived.TacticsInMore
import Derived.LoopNIn
import Derived.LoopIn
import Derived.Outline
import Derived.Lib.Hide
import Derived.Test.YthhohbidjhcjeaaDoorTM2
import Derived.Maps.OwnIn
import Derived.RegionIn
import Derived.Sort.CutIn
namespace Go.Proofs.YthhohbidjhcjeaaDoor.H
open Go.RowKit Go.Proofs.YthhohbidjhcjeaaDoorW.PrintWords Go.Proofs.YthhohbidjhcjeaaDoorW.PrintLast Go.Proofs.YthhohbidjhcjeaaDoorW.PrintMore
open Go.Proofs.YthhohbidjhcjeaaDoor.Q Go.Proofs.YthhohbidjhcjeaaDoor.Pl

theorem Rd.st {w W : World} {cp cq : Array Value} {x : S24} {A5 : Option Addr} {c5 : Nat} {A6 : Option Addr} {c6 : Nat} (h : Rd w x A5 c5 A6 c6) (hst : St w cp cq W) : Rd W x A5 c5 A6 c6 :=
 ⟨Kd.C_below h.g5 hst.below,h.l5,Kd.C_below h.g6 hst.below,h.l6⟩
theorem St.alloc {w W : World} {cp cq : Array Value} (h : St w cp cq W) (o : Obj) : St w cp cq (W.alloc o):=h.later (below_alloc (Below.refl _ _) o)
end Go.Proofs.YthhohbidjhcjeaaDoor.H
namespace Go.Proofs.YthhohbidjhcjeaaDoor.H
open Go.RowKit Go.Proofs.YthhohbidjhcjeaaDoorW.PrintWords Go.Proofs.YthhohbidjhcjeaaDoorW.PrintLast Go.Proofs.YthhohbidjhcjeaaDoorW.PrintMore
open Go.Proofs.YthhohbidjhcjeaaDoor.Q Go.Proofs.YthhohbidjhcjeaaDoor.Pl
set_option linter.unusedVariables false
end Go.Proofs.YthhohbidjhcjeaaDoor.H
namespace Go.Proofs.YthhohbidjhcjeaaDoor.H
open Go.RowKit Go.Proofs.YthhohbidjhcjeaaDoorW.PrintWords Go.Proofs.YthhohbidjhcjeaaDoorW.PrintLast Go.Proofs.YthhohbidjhcjeaaDoorW.PrintMore
open Go.Proofs.YthhohbidjhcjeaaDoor.Q Go.Proofs.YthhohbidjhcjeaaDoor.Pl

end Go.Proofs.YthhohbidjhcjeaaDoor.H
namespace Go.Proofs.YthhohbidjhcjeaaDoor.H
open Go.RowKit Go.Proofs.YthhohbidjhcjeaaDoorW.PrintWords Go.Proofs.YthhohbidjhcjeaaDoorW.PrintLast Go.Proofs.YthhohbidjhcjeaaDoorW.PrintMore
open Go.Proofs.YthhohbidjhcjeaaDoor.Q Go.Proofs.YthhohbidjhcjeaaDoor.Pl
set_option linter.unusedVariables false
set_option linter.unusedSimpArgs false
/-- Two boxes that a region makes: what each holds, where it is made already. -/
structure Sd (wu : World) (b9 b10 : Option (Array Value)) (g9 g10 : Nat) (W : World) : Prop where
 below : Below wu.heap.size wu W
 nine : ∀ c,b9 = some c → wu.heap.size ≤ g9 ∧ W.heap[g9]? = some (.cells c 24 (0,0))
 ten : ∀ c,b10 = some c → wu.heap.size ≤ g10 ∧ W.heap[g10]? = some (.cells c 24 (0,0))
 ne : ∀ c d,b9 = some c → b10 = some d → g9 ≠ g10
theorem Sd.start (wu : World) (g9 g10 : Nat) : Sd wu none none g9 g10 wu:=⟨Below.refl _ _,fun _ h => (by cases h),fun _ h => (by cases h),fun _ _ h => (by cases h)⟩
theorem Sd.later {wu W W' : World} {b9 b10 : Option (Array Value)} {g9 g10 : Nat} (h : Sd wu b9 b10 g9 g10 W) (hb : Below W.heap.size W W') : Sd wu b9 b10 g9 g10 W' :=
 ⟨h.below.trans (hb.mono h.below.size),fun c hc => ⟨(h.nine c hc).1,blk_below (h.nine c hc).2 hb⟩,fun c hc => ⟨(h.ten c hc).1,blk_below (h.ten c hc).2 hb⟩,h.ne⟩
end Go.Proofs.YthhohbidjhcjeaaDoor.H
namespace Go.Proofs.YthhohbidjhcjeaaDoor.H
open Go.RowKit Go.Proofs.YthhohbidjhcjeaaDoorW.PrintWords Go.Proofs.YthhohbidjhcjeaaDoorW.PrintLast Go.Proofs.YthhohbidjhcjeaaDoorW.PrintMore
open Go.Proofs.YthhohbidjhcjeaaDoor.Q Go.Proofs.YthhohbidjhcjeaaDoor.Pl
set_option linter.unusedVariables false
set_option linter.unusedSimpArgs false
theorem rr_at {w W : World} {A : Option Addr} {xs : List S24} (h : ReadsRow (Rw w) 7 W A xs.length xs) (i : Nat) (hi : i < xs.length) :
  ∃ (ad : Addr) (X5 : Option Addr) (x5 : Nat) (X6 : Option Addr) (x6 : Nat),A = some ad ∧ Rd w xs[i] X5 x5 X6 x6 ∧ W.cell? (ad.add (i * 7)) = some (.int .i64 xs[i].f0) ∧ W.cell? ⟨(ad.add (i * 7)).block,(ad.add (i * 7)).off + 1,none⟩ = some (.string xs[i].f1) ∧ W.cell? ⟨(ad.add (i * 7)).block,(ad.add (i * 7)).off + 2,none⟩ = some (.string xs[i].f2) ∧ W.cell? ⟨(ad.add (i * 7)).block,(ad.add (i * 7)).off + 3,none⟩ = some (.string xs[i].f3) ∧ W.cell? ⟨(ad.add (i * 7)).block,(ad.add (i * 7)).off + 4,none⟩ = some (.int .i64 xs[i].f4) ∧ W.cell? ⟨(ad.add (i * 7)).block,(ad.add (i * 7)).off + 5,none⟩ = some (.slice X5 xs[i].f5.length x5) ∧ W.cell? ⟨(ad.add (i * 7)).block,(ad.add (i * 7)).off + 6,none⟩ = some (.slice X6 xs[i].f6.length x6):=by
 obtain ⟨ad,rfl,hh⟩:=h.2.2 (by omega)
 obtain ⟨cl,hcl,⟨X5,x5,X6,x6,rfl,rx⟩,hcell⟩:=hh i _ (List.getElem?_eq_getElem hi)
 exact ⟨ad,X5,x5,X6,x6,rfl,rx,hcell 0 _ rfl,by rw [← add_field _ _ 1 (by omega)]; exact hcell 1 _ rfl,by rw [← add_field _ _ 2 (by omega)]; exact hcell 2 _ rfl,by rw [← add_field _ _ 3 (by omega)]; exact hcell 3 _ rfl,by rw [← add_field _ _ 4 (by omega)]; exact hcell 4 _ rfl,by rw [← add_field _ _ 5 (by omega)]; exact hcell 5 _ rfl,by rw [← add_field _ _ 6 (by omega)]; exact hcell 6 _ rfl⟩
theorem own_set7 {W : World} {w : World} {base g : Nat} {v : Value} {xs : List S24} (h : OwnRow (Rw w) 24 7 W base v xs) (hg : g < base) (v0 v1 v2 v3 v4 v5 v6 : Value) :
  OwnRow (Rw w) 24 7 (((((((W.setCell ⟨g,0,none⟩ v0).setCell ⟨g,1,none⟩ v1).setCell ⟨g,2,none⟩ v2).setCell ⟨g,3,none⟩ v3).setCell ⟨g,4,none⟩ v4).setCell ⟨g,5,none⟩ v5).setCell ⟨g,6,none⟩ v6) base v xs:=by
 have ne : some g ≠ v.ownBlock:=fun e => by
  obtain ⟨_,ho,_⟩:=h
  have:=own_base ho g e.symm
  omega
 obtain ⟨inner,ho,hr⟩:=h
 exact ⟨inner,own_setCell (own_setCell (own_setCell (own_setCell (own_setCell (own_setCell (own_setCell ho (p:=⟨g,0,none⟩) ne v0) (p:=⟨g,1,none⟩) ne v1) (p:=⟨g,2,none⟩) ne v2) (p:=⟨g,3,none⟩) ne v3) (p:=⟨g,4,none⟩) ne v4) (p:=⟨g,5,none⟩) ne v5) (p:=⟨g,6,none⟩) ne v6,hr⟩
theorem own_drew {W : World} {w : World} {base : Nat} {v : Value} {xs : List S24} (h : OwnRow (Rw w) 24 7 W base v xs) : OwnRow (Rw w) 24 7 W.drew base v xs:=h.below (below_drew (Below.refl _ _))
theorem ne_base {w W : World} {base g : Nat} {v : Value} {xs : List S24} (h : OwnRow (Rw w) 24 7 W base v xs) (hg : g < base) : some g ≠ v.ownBlock:=fun e => by
 obtain ⟨_,ho,_⟩:=h
 have:=own_base ho g e.symm
 omega
theorem ne_new {w W : World} {base g : Nat} {v : Value} {xs : List S24} (h : OwnRow (Rw w) 24 7 W base v xs) (hg : W.heap.size ≤ g) : some g ≠ v.ownBlock:=fun e => by
 obtain ⟨_,ho,_⟩:=h
 have:=own_lt ho g e.symm
 omega
theorem rd_none (W : World) (x : S24) (h5 : x.f5 = []) (h6 : x.f6 = []) : Rd W x none 0 none 0:=by
 rw [show x = { x with f5:=[],f6:=[] } from by cases x; cases h5; cases h6; rfl]
 exact ⟨Kd.C_nil _ _,Nat.le_refl _,Kd.C_nil _ _,Nat.le_refl _⟩
/-- What Past hands back: a row of its own above the call's world, the lists in elder memory w. -/
def PastRow (w W : World) (p : S24) (l : List S24) (e : Ending) (w' : World) : Prop :=
 ∃ v C5 e5 C6 e6,e = .returned (.tuple #[v,.agg (cs (past p l).2.1 C5 e5 C6 e6),.bool (past p l).2.2]) ∧ OwnRow (Rw w) 24 7 w' W.heap.size v (past p l).1 ∧ Rd w (past p l).2.1 C5 e5 C6 e6 ∧ Below W.heap.size W w'
set_option maxHeartbeats 16000000 in
set_option maxRecDepth 100000 in
theorem past_row (w : World) (p : S24) (l : List S24) (A5 : Option Addr) (a5 : Nat) (A6 : Option Addr) (a6 : Nat) (A : Option Addr) (c : Nat) (W : World) (hB0 : Below w.heap.size w W) (hp : Okp p) (hl : ∀ x ∈ l,Okp x) (hn : l.length ≤ 1256584717458) (rp : Rd w p A5 a5 A6 a6) (gl : ReadsRow (Rw w) 7 W A l.length l) :
  Calls Tryd.prog 26 #[.agg #[.int .i64 p.f0,.string p.f1,.string p.f2,.string p.f3,.int .i64 p.f4,.slice A5 p.f5.length a5,.slice A6 p.f6.length a6],.slice A l.length c] W (PastRow w W p l):=by
 replace hB0:=Aside0.mk hB0
 replace rp:=Aside0.mk rp
 replace gl:=Aside0.mk gl
 go_enter Tryd.func26,Tryd.ntmps26
 go_wp2
 go_loopg [7,15] l.length (fun kq v7 v15 w' => ∃ (i : Nat) (ys : List S24) (p' : S24) (C5 : Option Addr) (e5 : Nat) (C6 : Option Addr) (e6 : Nat),v15 = .int .i64 (i : Int) ∧ Aside0 (i + kq = l.length) ∧ Aside0 (pastS p l = (pastS p' (l.drop i)).map (fun r => (ys ++ r.1,r.2))) ∧ Aside0 (ys.length = i) ∧ Aside0 (Okp p') ∧ Aside0 (Rd w p' C5 e5 C6 e6) ∧ Aside0 (OwnRow (Rw w) 24 7 w' (W.heap.size + 2) v7 ys) ∧ Aside0 (w'.heap[W.heap.size]? = some (.cells #[.int .i64 p'.f0,.string p'.f1,.string p'.f2,.string p'.f3,.int .i64 p'.f4,.slice C5 p'.f5.length e5,.slice C6 p'.f6.length e6] 24 (0,0))) ∧ Aside0 (w'.heap[W.heap.size + 1]? = some (.cells zeroC 24 (0,0))) ∧ Aside0 (Below W.heap.size W w'))
 case atStart => exact ⟨0,[],p,A5,a5,A6,a6,rfl,⟨by omega⟩,⟨by cases h : pastS p l with | none => rw [List.drop_zero,h]; rfl | some r => rw [List.drop_zero,h]; rfl⟩,⟨rfl⟩,⟨hp⟩,rp,⟨OwnRow.none_ _ _ _ _ _⟩,⟨box1 W _ _⟩,⟨box2 W _ _⟩,⟨((Below.refl _ W).alloc (Nat.le_refl _) _).alloc (by simp) _⟩⟩
 case round =>
  obtain ⟨i,ys,p',C5,e5,C6,e6,rfl,hk,hpast,hlen,hp',rp',hN,xp,xr,hB⟩:=hrel
  by_cases hi : i < l.length
  ·have c1b : decide ((i : Int) < (l.length : Int)) = true:=decide_eq_true (by omega)
   obtain ⟨ad,X5,x5,X6,x6,eA,rx,y0,y1,y2,y3,y4,y5,y6⟩:=rr_at gl.out i hi
   obtain ⟨x,hxm⟩ : ∃ x,x = l[i]:=⟨_,rfl⟩
   rw [← hxm] at rx y0 y1 y2 y3 y4 y5 y6
   have hox : Okp x:=by rw [hxm]; exact hl _ (List.getElem_mem hi)
   have hbW:=hB.out
   have i0 : (0 : Int) ≤ (i : Int):=by omega
   have i1 : (i : Int) < (l.length : Int):=by omega
   have z0:=pw_cell_below hbW y0
   have z1:=pw_cell_below hbW y1
   have z2:=pw_cell_below hbW y2
   have z3:=pw_cell_below hbW y3
   have z4:=pw_cell_below hbW y4
   have z5:=pw_cell_below hbW y5
   have z6:=pw_cell_below hbW y6
   clear y0 y1 y2 y3 y4 y5 y6
   subst eA
   have hszw:=hbW.size
   have hBw : Aside0 (Below w.heap.size w wr):=⟨hB0.out.trans (hB.out.mono hB0.out.size)⟩
   have hsz0 : Aside0 (w.heap.size ≤ W.heap.size):=⟨hB0.out.size⟩
   have hdrop : l.drop i = x :: l.drop (i + 1):=by rw [hxm]; exact List.drop_eq_getElem_cons hi
   have hdr:=Aside0.mk hdrop
   clear hdrop hbW hxm
   have pc0 : wr.cell? ⟨W.heap.size,0,none⟩ = some (.int .i64 p'.f0):=(blk_cell xp.out 0).trans rfl
   have pc1 : wr.cell? ⟨W.heap.size,1,none⟩ = some (.string p'.f1):=(blk_cell xp.out 1).trans rfl
   have pc2 : wr.cell? ⟨W.heap.size,2,none⟩ = some (.string p'.f2):=(blk_cell xp.out 2).trans rfl
   have pc3 : wr.cell? ⟨W.heap.size,3,none⟩ = some (.string p'.f3):=(blk_cell xp.out 3).trans rfl
   have pc4 : wr.cell? ⟨W.heap.size,4,none⟩ = some (.int .i64 p'.f4):=(blk_cell xp.out 4).trans rfl
   have pc5 : wr.cell? ⟨W.heap.size,5,none⟩ = some (.slice C5 p'.f5.length e5):=(blk_cell xp.out 5).trans rfl
   have pc6 : wr.cell? ⟨W.heap.size,6,none⟩ = some (.slice C6 p'.f6.length e6):=(blk_cell xp.out 6).trans rfl
   have pd0 : ∀ o,(wr.alloc o).cell? ⟨W.heap.size,0,none⟩ = some (.int .i64 p'.f0):=fun o => (blk_cell (blk_alloc xp.out o) 0).trans rfl
   have pd1 : ∀ o,(wr.alloc o).cell? ⟨W.heap.size,1,none⟩ = some (.string p'.f1):=fun o => (blk_cell (blk_alloc xp.out o) 1).trans rfl
   have pd2 : ∀ o,(wr.alloc o).cell? ⟨W.heap.size,2,none⟩ = some (.string p'.f2):=fun o => (blk_cell (blk_alloc xp.out o) 2).trans rfl
   have pd3 : ∀ o,(wr.alloc o).cell? ⟨W.heap.size,3,none⟩ = some (.string p'.f3):=fun o => (blk_cell (blk_alloc xp.out o) 3).trans rfl
   have pd4 : ∀ o,(wr.alloc o).cell? ⟨W.heap.size,4,none⟩ = some (.int .i64 p'.f4):=fun o => (blk_cell (blk_alloc xp.out o) 4).trans rfl
   have pd5 : ∀ o,(wr.alloc o).cell? ⟨W.heap.size,5,none⟩ = some (.slice C5 p'.f5.length e5):=fun o => (blk_cell (blk_alloc xp.out o) 5).trans rfl
   have pd6 : ∀ o,(wr.alloc o).cell? ⟨W.heap.size,6,none⟩ = some (.slice C6 p'.f6.length e6):=fun o => (blk_cell (blk_alloc xp.out o) 6).trans rfl
   replace rx:=Aside0.mk rx
   go_wp2_with (fail)
   refine (comm_at p' x C5 e5 C6 e6 X5 x5 X6 x6 _ hp'.out hox ((rp'.out.below hBw.out).below (by repeat (first | exact Below.refl _ _ | refine Below.setCell ?_ (by simp <;> omega) _ | refine Below.alloc ?_ (by simp <;> omega) _ | refine Below.drew ?_))) ((rx.out.below hBw.out).below (by repeat (first | exact Below.refl _ _ | refine Below.setCell ?_ (by simp <;> omega) _ | refine Below.alloc ?_ (by simp <;> omega) _ | refine Below.drew ?_)))).mono ?_
   rintro e w2 ⟨h4,hb2⟩
   clear pc0 pc1 pc2 pc3 pc4 pc5 pc6 z0 pd0 z1 pd1 z2 pd2 z3 pd3 z4 pd4 z5 pd5 z6 pd6
   have hs2 : Below wr.heap.size wr w2:=two_steps (by repeat (first | exact Below.refl _ _ | refine Below.setCell ?_ (by simp <;> omega) _ | refine Below.alloc ?_ (by simp <;> omega) _ | refine Below.drew ?_)) hb2
   clear hb2
   have hB2 : Aside0 (Below W.heap.size W w2):=⟨hB.out.trans (hs2.mono hB.out.size)⟩
   have xp2:=blk_below xp.out hs2
   have xr2:=blk_below xr.out hs2
   have hN2:=Aside0.mk (hN.out.below hs2)
   have hsz2:=hs2.size
   clear hs2
   rcases h4 with ⟨hn4,rfl⟩ | ⟨a,b,hy,rfl⟩
   ·have hno:=Aside0.mk hn4
    clear hn4
    have xc0 : ∀ o o',((w2.alloc o).alloc o').cell? ⟨W.heap.size + 1,0,none⟩ = some (.int .i64 0):=fun o o' => (blk_cell (blk_alloc (blk_alloc xr2 o) o') 0).trans rfl
    have xc1 : ∀ o o',((w2.alloc o).alloc o').cell? ⟨W.heap.size + 1,1,none⟩ = some (.string ⟨#[]⟩):=fun o o' => (blk_cell (blk_alloc (blk_alloc xr2 o) o') 1).trans rfl
    have xc2 : ∀ o o',((w2.alloc o).alloc o').cell? ⟨W.heap.size + 1,2,none⟩ = some (.string ⟨#[]⟩):=fun o o' => (blk_cell (blk_alloc (blk_alloc xr2 o) o') 2).trans rfl
    have xc3 : ∀ o o',((w2.alloc o).alloc o').cell? ⟨W.heap.size + 1,3,none⟩ = some (.string ⟨#[]⟩):=fun o o' => (blk_cell (blk_alloc (blk_alloc xr2 o) o') 3).trans rfl
    have xc4 : ∀ o o',((w2.alloc o).alloc o').cell? ⟨W.heap.size + 1,4,none⟩ = some (.int .i64 0):=fun o o' => (blk_cell (blk_alloc (blk_alloc xr2 o) o') 4).trans rfl
    have xc5 : ∀ o o',((w2.alloc o).alloc o').cell? ⟨W.heap.size + 1,5,none⟩ = some (.slice none 0 0):=fun o o' => (blk_cell (blk_alloc (blk_alloc xr2 o) o') 5).trans rfl
    have xc6 : ∀ o o',((w2.alloc o).alloc o').cell? ⟨W.heap.size + 1,6,none⟩ = some (.slice none 0 0):=fun o o' => (blk_cell (blk_alloc (blk_alloc xr2 o) o') 6).trans rfl
    have xf0 : ∀ o o',((w2.alloc o).alloc o').frozen? ⟨W.heap.size + 1,0,none⟩ = false:=fun o o' => blk_frozen (blk_alloc (blk_alloc xr2 o) o') 0
    have xf1 : ∀ o o',((w2.alloc o).alloc o').frozen? ⟨W.heap.size + 1,1,none⟩ = false:=fun o o' => blk_frozen (blk_alloc (blk_alloc xr2 o) o') 1
    have xf2 : ∀ o o',((w2.alloc o).alloc o').frozen? ⟨W.heap.size + 1,2,none⟩ = false:=fun o o' => blk_frozen (blk_alloc (blk_alloc xr2 o) o') 2
    have xf3 : ∀ o o',((w2.alloc o).alloc o').frozen? ⟨W.heap.size + 1,3,none⟩ = false:=fun o o' => blk_frozen (blk_alloc (blk_alloc xr2 o) o') 3
    have xf4 : ∀ o o',((w2.alloc o).alloc o').frozen? ⟨W.heap.size + 1,4,none⟩ = false:=fun o o' => blk_frozen (blk_alloc (blk_alloc xr2 o) o') 4
    have xf5 : ∀ o o',((w2.alloc o).alloc o').frozen? ⟨W.heap.size + 1,5,none⟩ = false:=fun o o' => blk_frozen (blk_alloc (blk_alloc xr2 o) o') 5
    have xf6 : ∀ o o',((w2.alloc o).alloc o').frozen? ⟨W.heap.size + 1,6,none⟩ = false:=fun o o' => blk_frozen (blk_alloc (blk_alloc xr2 o) o') 6
    have hz : Aside0 (past p l = ([],z24,false)):=⟨by unfold past; rw [hpast.out,hdr.out,pastS,hno.out,if_neg (by simp)]; rfl⟩
    go_wp2
    (try simp only [Exit.noGoto_ret,Exit.inBlock,Exit.then])
    refine bodyPost_ret (ret26 (gy:=W.heap.size + 1) (y0:=.int .i64 0) (y1:=.string ⟨#[]⟩) (y2:=.string ⟨#[]⟩) (y3:=.string ⟨#[]⟩) (y4:=.int .i64 0) (y5:=.slice none 0 0) (y6:=.slice none 0 0) rfl rfl rfl ?_) rfl ?_
    ·exact set7 ((blk_alloc (blk_alloc xr2 _) _)) rfl _ _ _ _ _ _ _
    ·unfold PastRow
     rw [hz.out]
     exact ⟨_,none,0,none,0,rfl,OwnRow.none_ _ _ _ _ _,rd_none _ _ rfl rfl,below7 ((hB2.out.alloc hB2.out.size _).alloc (by have:=hB2.out.size; simp; omega) _) (by omega) _ _ _ _ _ _ _⟩
   ·cases gk with
    | zero => have:=hk.out; omega
    | succ k1 =>
     obtain ⟨kb,ka⟩:=rule_keep hy.r
     have ra : Aside0 (Rd w a X5 x5 X6 x6):=⟨rx.out.of (by rw [ka]) (by rw [ka])⟩
     have rb : Aside0 (Rd w b C5 e5 C6 e6):=⟨rp'.out.of (by rw [kb]) (by rw [kb])⟩
     clear ka kb
     have hob : Okp b:=(okp_yes hy hp'.out hox).2
     have hcy:=Aside0.mk (comm_of hy)
     have hNA : Aside0 (OwnRow (Rw w) 24 7 ((w2.alloc (.cells #[.int .i64 a.f0,.string a.f1,.string a.f2,.string a.f3,.int .i64 a.f4,.slice X5 a.f5.length x5,.slice X6 a.f6.length x6] 24)).alloc (.cells #[.int .i64 b.f0,.string b.f1,.string b.f2,.string b.f3,.int .i64 b.f4,.slice C5 b.f5.length e5,.slice C6 b.f6.length e6] 24)) (W.heap.size + 2) u7 ys):=⟨(hN2.out.below (below_alloc (Below.refl _ _) _)).below (below_alloc (Below.refl _ _) _)⟩
     have hSA : Aside0 (W.heap.size + 2 ≤ ((w2.alloc (.cells #[.int .i64 a.f0,.string a.f1,.string a.f2,.string a.f3,.int .i64 a.f4,.slice X5 a.f5.length x5,.slice X6 a.f6.length x6] 24)).alloc (.cells #[.int .i64 b.f0,.string b.f1,.string b.f2,.string b.f3,.int .i64 b.f4,.slice C5 b.f5.length e5,.slice C6 b.f6.length e6] 24)).heap.size):=⟨by have:=blk_lt xr2; simp; omega⟩
     have hLA : Aside0 ((ys.length + 1) * 112 ≤ 140737488355328):=⟨Nat.le_trans (Nat.mul_le_mul_right 112 (show ys.length + 1 ≤ 1256584717458 by have:=hlen.out; omega)) (by decide)⟩
     have n1 : some (w2.heap.size + 1) ≠ u7.ownBlock:=ne_new hN2.out (by omega)
     have n2 : some W.heap.size ≠ u7.ownBlock:=ne_base hN.out (by omega)
     have n3 : some (W.heap.size + 1) ≠ u7.ownBlock:=ne_base hN.out (by omega)
     have hbA : Aside0 (∀ w3,((w2.alloc (.cells #[.int .i64 a.f0,.string a.f1,.string a.f2,.string a.f3,.int .i64 a.f4,.slice X5 a.f5.length x5,.slice X6 a.f6.length x6] 24)).alloc (.cells #[.int .i64 b.f0,.string b.f1,.string b.f2,.string b.f3,.int .i64 b.f4,.slice C5 b.f5.length e5,.slice C6 b.f6.length e6] 24)).grownBy w3 u7.ownBlock → Below W.heap.size W w3):=⟨fun w3 hg => ((hB2.out.alloc hB2.out.size _).alloc (by have:=hB2.out.size; simp; omega) _).grown hg (by have:=hB2.out.size; simp; omega) (fun k hk => by obtain ⟨_,ho,_⟩:=hN.out; have:=own_base ho k hk; omega)⟩
     have xbA : Aside0 (∀ w3,((w2.alloc (.cells #[.int .i64 a.f0,.string a.f1,.string a.f2,.string a.f3,.int .i64 a.f4,.slice X5 a.f5.length x5,.slice X6 a.f6.length x6] 24)).alloc (.cells #[.int .i64 b.f0,.string b.f1,.string b.f2,.string b.f3,.int .i64 b.f4,.slice C5 b.f5.length e5,.slice C6 b.f6.length e6] 24)).grownBy w3 u7.ownBlock → w3.heap[w2.heap.size + 1]? = some (.cells #[.int .i64 b.f0,.string b.f1,.string b.f2,.string b.f3,.int .i64 b.f4,.slice C5 b.f5.length e5,.slice C6 b.f6.length e6] 24 (0,0))):=⟨fun w3 hg => (hg.block _ (by simp) n1).trans (box2 _ _ _)⟩
     have xpA : Aside0 (∀ w3,((w2.alloc (.cells #[.int .i64 a.f0,.string a.f1,.string a.f2,.string a.f3,.int .i64 a.f4,.slice X5 a.f5.length x5,.slice X6 a.f6.length x6] 24)).alloc (.cells #[.int .i64 b.f0,.string b.f1,.string b.f2,.string b.f3,.int .i64 b.f4,.slice C5 b.f5.length e5,.slice C6 b.f6.length e6] 24)).grownBy w3 u7.ownBlock → w3.heap[W.heap.size]? = some (.cells #[.int .i64 p'.f0,.string p'.f1,.string p'.f2,.string p'.f3,.int .i64 p'.f4,.slice C5 p'.f5.length e5,.slice C6 p'.f6.length e6] 24 (0,0))):=⟨fun w3 hg => (hg.block _ (by have:=blk_lt xp2; simp; omega) n2).trans (blk_alloc (blk_alloc xp2 _) _)⟩
     have xrA : Aside0 (∀ w3,((w2.alloc (.cells #[.int .i64 a.f0,.string a.f1,.string a.f2,.string a.f3,.int .i64 a.f4,.slice X5 a.f5.length x5,.slice X6 a.f6.length x6] 24)).alloc (.cells #[.int .i64 b.f0,.string b.f1,.string b.f2,.string b.f3,.int .i64 b.f4,.slice C5 b.f5.length e5,.slice C6 b.f6.length e6] 24)).grownBy w3 u7.ownBlock → w3.heap[W.heap.size + 1]? = some (.cells zeroC 24 (0,0))):=⟨fun w3 hg => (hg.block _ (by have:=blk_lt xr2; simp; omega) n3).trans (blk_alloc (blk_alloc xr2 _) _)⟩
     have hszT : Aside0 (((w2.alloc (.cells #[.int .i64 a.f0,.string a.f1,.string a.f2,.string a.f3,.int .i64 a.f4,.slice X5 a.f5.length x5,.slice X6 a.f6.length x6] 24)).alloc (.cells #[.int .i64 b.f0,.string b.f1,.string b.f2,.string b.f3,.int .i64 b.f4,.slice C5 b.f5.length e5,.slice C6 b.f6.length e6] 24)).heap.size = w2.heap.size + 1 + 1):=⟨by simp⟩
     have hyy:=Aside0.mk hy
     clear hy n1 n2 n3
     go_wp2_with (((with_reducible refine gate_builtin (b:=.append) (xs:=#[.tmp 29,.tmp 31]) rfl ?_); at_builtin; refine OwnRow.append (R:=Rw w) (w0:=((w2.alloc (.cells #[.int .i64 a.f0,.string a.f1,.string a.f2,.string a.f3,.int .i64 a.f4,.slice X5 a.f5.length x5,.slice X6 a.f6.length x6] 24)).alloc (.cells #[.int .i64 b.f0,.string b.f1,.string b.f2,.string b.f3,.int .i64 b.f4,.slice C5 b.f5.length e5,.slice C6 b.f6.length e6] 24))) (W.heap.size + 2) rfl (.tmp 29) (.tmp 31) 25 24 (.agg #[(.int .i64 0),(.string ⟨#[]⟩),(.string ⟨#[]⟩),(.string ⟨#[]⟩),(.int .i64 0),(.slice none 0 0),(.slice none 0 0)]) 7 112 rfl Tryd.underlying25 infoR rfl (by decide) (by omega) u7 ys a [.int .i64 a.f0,.string a.f1,.string a.f2,.string a.f3,.int .i64 a.f4,.slice X5 a.f5.length x5,.slice X6 a.f6.length x6] rfl ?aX ?aP rfl (rw_one (w:=w)) ?aO (Below.refl _ _) ?aS ?aL ?_; (case aX => exact congrArg (fun n => Value.slice (some ⟨n,0,none⟩) 1 1) hszT.out.symm); (case aP => exact ⟨_,_,_,_,rfl,ra.out⟩); (case aO => exact hNA.out); (case aS => exact hSA.out); (case aL => exact hLA.out); intro y1 w3 hN3 hB3 hg3 hat3; have xb3:=xbA.out _ hg3; have xp3:=xpA.out _ hg3; have xr3:=xrA.out _ hg3; replace hB3:=hbA.out _ hg3; have bc0 : w3.cell? ⟨w2.heap.size + 1,0,none⟩ = some (.int .i64 b.f0):=(blk_cell xb3 0).trans rfl; have bc1 : w3.cell? ⟨w2.heap.size + 1,1,none⟩ = some (.string b.f1):=(blk_cell xb3 1).trans rfl; have bc2 : w3.cell? ⟨w2.heap.size + 1,2,none⟩ = some (.string b.f2):=(blk_cell xb3 2).trans rfl; have bc3 : w3.cell? ⟨w2.heap.size + 1,3,none⟩ = some (.string b.f3):=(blk_cell xb3 3).trans rfl; have bc4 : w3.cell? ⟨w2.heap.size + 1,4,none⟩ = some (.int .i64 b.f4):=(blk_cell xb3 4).trans rfl; have bc5 : w3.cell? ⟨w2.heap.size + 1,5,none⟩ = some (.slice C5 b.f5.length e5):=(blk_cell xb3 5).trans rfl; have bc6 : w3.cell? ⟨w2.heap.size + 1,6,none⟩ = some (.slice C6 b.f6.length e6):=(blk_cell xb3 6).trans rfl; have pc0 : w3.cell? ⟨W.heap.size,0,none⟩ = some (.int .i64 p'.f0):=(blk_cell xp3 0).trans rfl; have pc1 : w3.cell? ⟨W.heap.size,1,none⟩ = some (.string p'.f1):=(blk_cell xp3 1).trans rfl; have pc2 : w3.cell? ⟨W.heap.size,2,none⟩ = some (.string p'.f2):=(blk_cell xp3 2).trans rfl; have pc3 : w3.cell? ⟨W.heap.size,3,none⟩ = some (.string p'.f3):=(blk_cell xp3 3).trans rfl; have pc4 : w3.cell? ⟨W.heap.size,4,none⟩ = some (.int .i64 p'.f4):=(blk_cell xp3 4).trans rfl; have pc5 : w3.cell? ⟨W.heap.size,5,none⟩ = some (.slice C5 p'.f5.length e5):=(blk_cell xp3 5).trans rfl; have pc6 : w3.cell? ⟨W.heap.size,6,none⟩ = some (.slice C6 p'.f6.length e6):=(blk_cell xp3 6).trans rfl; have pf0:=blk_frozen xp3 0; have pf1:=blk_frozen xp3 1; have pf2:=blk_frozen xp3 2; have pf3:=blk_frozen xp3 3; have pf4:=blk_frozen xp3 4; have pf5:=blk_frozen xp3 5; have pf6:=blk_frozen xp3 6))
     go_roundg k1
     case measure => omega
     case rel =>
      refine ⟨i + 1,ys ++ [a],b,C5,e5,C6,e6,?_,⟨by have:=hk.out; omega⟩,⟨?_⟩,⟨by have:=hlen.out; simp; omega⟩,⟨hob⟩,rb,⟨own_set7 hN3 (by omega) _ _ _ _ _ _ _⟩,⟨set7 xp3 rfl _ _ _ _ _ _ _⟩,⟨(keep7 (by omega) _ _ _ _ _ _ _).trans xr3⟩,⟨below7 hB3 (Nat.le_refl _) _ _ _ _ _ _ _⟩⟩
      ·first | rfl | (rw [wrap_1 hi (by omega)])
      ·rw [hpast.out,hdr.out,pastS,hcy.out,if_pos rfl]
       cases pastS b (l.drop (i + 1)) with
       | none => rfl
       | some r => simp
  ·have c1b : decide ((i : Int) < (l.length : Int)) = false:=decide_eq_false (by omega)
   have pc0 : wr.cell? ⟨W.heap.size,0,none⟩ = some (.int .i64 p'.f0):=(blk_cell xp.out 0).trans rfl
   have pc1 : wr.cell? ⟨W.heap.size,1,none⟩ = some (.string p'.f1):=(blk_cell xp.out 1).trans rfl
   have pc2 : wr.cell? ⟨W.heap.size,2,none⟩ = some (.string p'.f2):=(blk_cell xp.out 2).trans rfl
   have pc3 : wr.cell? ⟨W.heap.size,3,none⟩ = some (.string p'.f3):=(blk_cell xp.out 3).trans rfl
   have pc4 : wr.cell? ⟨W.heap.size,4,none⟩ = some (.int .i64 p'.f4):=(blk_cell xp.out 4).trans rfl
   have pc5 : wr.cell? ⟨W.heap.size,5,none⟩ = some (.slice C5 p'.f5.length e5):=(blk_cell xp.out 5).trans rfl
   have pc6 : wr.cell? ⟨W.heap.size,6,none⟩ = some (.slice C6 p'.f6.length e6):=(blk_cell xp.out 6).trans rfl
   have xc0 : wr.cell? ⟨W.heap.size + 1,0,none⟩ = some (.int .i64 0):=(blk_cell xr.out 0).trans rfl
   have xc1 : wr.cell? ⟨W.heap.size + 1,1,none⟩ = some (.string ⟨#[]⟩):=(blk_cell xr.out 1).trans rfl
   have xc2 : wr.cell? ⟨W.heap.size + 1,2,none⟩ = some (.string ⟨#[]⟩):=(blk_cell xr.out 2).trans rfl
   have xc3 : wr.cell? ⟨W.heap.size + 1,3,none⟩ = some (.string ⟨#[]⟩):=(blk_cell xr.out 3).trans rfl
   have xc4 : wr.cell? ⟨W.heap.size + 1,4,none⟩ = some (.int .i64 0):=(blk_cell xr.out 4).trans rfl
   have xc5 : wr.cell? ⟨W.heap.size + 1,5,none⟩ = some (.slice none 0 0):=(blk_cell xr.out 5).trans rfl
   have xc6 : wr.cell? ⟨W.heap.size + 1,6,none⟩ = some (.slice none 0 0):=(blk_cell xr.out 6).trans rfl
   have xf0:=blk_frozen xr.out 0
   have xf1:=blk_frozen xr.out 1
   have xf2:=blk_frozen xr.out 2
   have xf3:=blk_frozen xr.out 3
   have xf4:=blk_frozen xr.out 4
   have xf5:=blk_frozen xr.out 5
   have xf6:=blk_frozen xr.out 6
   have hz : Aside0 (past p l = (ys,p',true)):=⟨by unfold past; rw [hpast.out,List.drop_of_length_le (by omega),pastS]; simp⟩
   obtain ⟨D,d,rfl,hd⟩:=hN.out.slice_
   go_wp2
   all_goals go_region
   all_goals go_wp2
   all_goals
    refine bodyPost_ret (ret26 (gy:=W.heap.size + 1) (y0:=.int .i64 p'.f0) (y1:=.string p'.f1) (y2:=.string p'.f2) (y3:=.string p'.f3) (y4:=.int .i64 p'.f4) (y5:=.slice C5 p'.f5.length e5) (y6:=.slice C6 p'.f6.length e6) rfl rfl rfl ?_) rfl ?_
    ·exact drew_at (set7 xr.out rfl _ _ _ _ _ _ _)
    ·unfold PastRow
     rw [hz.out]
     have hbz:=Below.drew (below7 hB.out (g:=W.heap.size + 1) (by omega) (.int .i64 p'.f0) (.string p'.f1) (.string p'.f2) (.string p'.f3) (.int .i64 p'.f4) (.slice C5 p'.f5.length e5) (.slice C6 p'.f6.length e6))
     exact ⟨_,C5,e5,C6,e6,rfl,(own_drew (own_set7 hN.out (by omega) _ _ _ _ _ _ _)).lower (by omega),rp'.out,hbz⟩
end Go.Proofs.YthhohbidjhcjeaaDoor.H
namespace Go.Proofs.YthhohbidjhcjeaaDoor.H
open Go.RowKit Go.Proofs.YthhohbidjhcjeaaDoorW.PrintWords Go.Proofs.YthhohbidjhcjeaaDoorW.PrintLast Go.Proofs.YthhohbidjhcjeaaDoorW.PrintMore
open Go.Proofs.YthhohbidjhcjeaaDoor.Q Go.Proofs.YthhohbidjhcjeaaDoor.Pl
set_option linter.unusedVariables false
set_option linter.unusedSimpArgs false
theorem cutP {S G : Nat → Value → Option Addr → Nat → Option Addr → Nat → World → Prop} {goal : Prop} (h : (∀ g v C5 e5 C6 e6 W,S g v C5 e5 C6 e6 W → G g v C5 e5 C6 e6 W) → goal) (h2 : ∀ g v C5 e5 C6 e6 W,S g v C5 e5 C6 e6 W → G g v C5 e5 C6 e6 W) : goal:=h h2
theorem past_no {p : S24} {l : List S24} (h : pastS p l = none) : past p l = ([],z24,false):=by unfold past; rw [h]
theorem past_yes {p : S24} {l : List S24} {y : List S24} {r : S24} (h : pastS p l = some (y,r)) : past p l = (y,r,true):=by unfold past; rw [h]
/-- Behind a Past whose answer's patch is laid in a box. -/
structure PB (w wr : World) (t : List S24 × S24 × Bool) (b : Array Value) (g : Nat) (v : Value) (C5 : Option Addr) (e5 : Nat) (C6 : Option Addr) (e6 : Nat) (W : World) : Prop where
 below : Below wr.heap.size wr W
 ge : wr.heap.size ≤ g
 box : W.heap[g]? = some (.cells b 24 (0,0))
 row : OwnRow (Rw w) 24 7 W wr.heap.size v t.1
 ne : some g ≠ v.ownBlock
 rd : Rd w t.2.1 C5 e5 C6 e6
theorem PB.set {w wr W : World} {t : List S24 × S24 × Bool} {b : Array Value} {g : Nat} {v : Value} {C5 : Option Addr} {e5 : Nat} {C6 : Option Addr} {e6 : Nat} (h : PB w wr t b g v C5 e5 C6 e6 W) (hb : b.size = 7) (v0 v1 v2 v3 v4 v5 v6 : Value) :
  PB w wr t #[v0,v1,v2,v3,v4,v5,v6] g v C5 e5 C6 e6 (((((((W.setCell ⟨g,0,none⟩ v0).setCell ⟨g,1,none⟩ v1).setCell ⟨g,2,none⟩ v2).setCell ⟨g,3,none⟩ v3).setCell ⟨g,4,none⟩ v4).setCell ⟨g,5,none⟩ v5).setCell ⟨g,6,none⟩ v6):=by
 obtain ⟨inner,ho,hr⟩:=h.row
 exact ⟨below7 h.below h.ge v0 v1 v2 v3 v4 v5 v6,h.ge,set7 h.box hb v0 v1 v2 v3 v4 v5 v6,⟨inner,own_setCell (own_setCell (own_setCell (own_setCell (own_setCell (own_setCell (own_setCell ho (p:=⟨g,0,none⟩) h.ne v0) (p:=⟨g,1,none⟩) h.ne v1) (p:=⟨g,2,none⟩) h.ne v2) (p:=⟨g,3,none⟩) h.ne v3) (p:=⟨g,4,none⟩) h.ne v4) (p:=⟨g,5,none⟩) h.ne v5) (p:=⟨g,6,none⟩) h.ne v6,hr⟩,h.ne,h.rd⟩
theorem rw_up {w w' : World} (hb : Below w.heap.size w w') {x : S24} {c : List Value} (h : Rw w x c) : Rw w' x c:=by
 obtain ⟨X5,x5,X6,x6,e,r⟩:=h
 exact ⟨X5,x5,X6,x6,e,r.below hb⟩
theorem rr_C {w W : World} {A : Option Addr} {n : Nat} {xs : List S24} (h : ReadsRow (Rw w) 7 W A n xs) (hb : Below w.heap.size w W) : Kd.C k24 W A n xs:=by
 refine ReadsRow.imp_ h (Below.refl _ _) ?_
 rintro p cl ⟨X5,x5,X6,x6,rfl,rx⟩
 exact k24_mk W p rx.l5 (Kd.C_below rx.g5 hb) rx.l6 (Kd.C_below rx.g6 hb)
/-- One of a row the last. -/
def lastS (l : List S24) (i : Nat) : List S24 × Bool:=match l[i]? with
 | none => ([],false)
 | some x => match pastS x (l.drop (i + 1)) with
  | none => ([],false)
  | some r => (l.take i ++ (r.1 ++ [r.2]),true)
def lastP (l : List S24) (k : Int) : List S24 × Bool:=if k < 0 ∨ (l.length : Int) ≤ k then ([],false) else lastS l k.toNat
def LastPost (w : World) (l : List S24) (k : Int) (e : Ending) (w' : World) : Prop :=
 ∃ D d,e = .returned (.tuple #[.slice D (lastP l k).1.length d,.bool (lastP l k).2]) ∧ Kd.C k24 w' D (lastP l k).1.length (lastP l k).1 ∧ (lastP l k).1.length ≤ d ∧ Below w.heap.size w w'
theorem lastP_out {l : List S24} {k : Int} (h : k < 0 ∨ (l.length : Int) ≤ k) : lastP l k = ([],false):=if_pos h
theorem lastP_in {l : List S24} {i : Nat} (h : i < l.length) : lastP l (i : Int) = lastS l i:=by
 unfold lastP
 rw [if_neg (by omega),Int.toNat_natCast]
theorem lastS_no {l : List S24} {i : Nat} (h : i < l.length) (hp : pastS l[i] (l.drop (i + 1)) = none) : lastS l i = ([],false):=by
 unfold lastS
 rw [List.getElem?_eq_getElem h]
 simp only [hp]
theorem lastS_yes {l : List S24} {i : Nat} (h : i < l.length) {ys : List S24} {r : S24} (hp : pastS l[i] (l.drop (i + 1)) = some (ys,r)) : lastS l i = (l.take i ++ (ys ++ [r]),true):=by
 unfold lastS
 rw [List.getElem?_eq_getElem h]
 simp only [hp]
theorem past_len : ∀ (a : List S24) (p : S24) (y : List S24) (r : S24),pastS p a = some (y,r) → y.length = a.length
 | [],p,y,r,h => by
  cases h
  rfl
 | x :: a,p,y,r,h => by
  rw [pastS] at h
  obtain ⟨a',b,is⟩ : ∃ a' b,comm p x = (a',b):=⟨_,_,rfl⟩
  rw [is] at h
  dsimp only at h
  split at h
  ·cases hb : pastS b.1 a with
   | none => rw [hb] at h; cases h
   | some z =>
    rw [hb] at h
    cases h
    rw [List.length_cons,List.length_cons,past_len a _ _ _ hb]
  ·cases h
theorem ret40 {tmps : Array Value} {W : World} {v r : Value} (h4 : tmps[4]? = some v) (h5 : tmps[5]? = some r) : (results Tryd.f40 tmps).run Tryd.prog W = .ok (.tuple #[v,r]) W:=by
 simp [results,Tryd.results40,go_sem, *]
set_option maxHeartbeats 16000000 in
set_option maxRecDepth 100000 in
theorem last_at (l : List S24) (k : Int) (A : Option Addr) (c : Nat) (w : World) (hl : ∀ x ∈ l,Okp x) (hn : l.length ≤ 1000) (gl : Kd.C k24 w A l.length l) (hlc : l.length ≤ c) :
  Calls Tryd.prog 40 #[.slice A l.length c,.int .i64 k] w (LastPost w l k):=by
 by_cases h : k < 0 ∨ (l.length : Int) ≤ k
 ·have hz:=Aside0.mk (lastP_out h)
  clear gl
  rcases Int.lt_or_le k 0 with h0 | h0
  ·have c1 : decide (k < 0) = true:=decide_eq_true h0
   clear h
   go_enter Tryd.func40,Tryd.ntmps40
   go_wp2
   refine bodyPost_ret (ret40 rfl rfl) rfl ?_
   exact ⟨none,0,by rw [hz.out]; rfl,by rw [hz.out]; exact Kd.C_nil _ _,by rw [hz.out]; exact Nat.le_refl _,Below.refl _ _⟩
  ·have h1 : (l.length : Int) ≤ k:=by omega
   have c1 : decide (k < 0) = false:=decide_eq_false (by omega)
   have c2 : decide (k ≥ (l.length : Int)) = true:=decide_eq_true h1
   clear h
   go_enter Tryd.func40,Tryd.ntmps40
   go_wp2
   refine bodyPost_ret (ret40 rfl rfl) rfl ?_
   exact ⟨none,0,by rw [hz.out]; rfl,by rw [hz.out]; exact Kd.C_nil _ _,by rw [hz.out]; exact Nat.le_refl _,Below.refl _ _⟩
 obtain ⟨i,rfl⟩ : ∃ i : Nat,k = (i : Int):=⟨k.toNat,by omega⟩
 have hi : i < l.length:=by omega
 have c1 : decide ((i : Int) < 0) = false:=decide_eq_false (by omega)
 have c2 : decide ((i : Int) ≥ (l.length : Int)) = false:=decide_eq_false (by omega)
 clear h
 obtain ⟨ad,X5,x5,X6,x6,eA,y0,y1,y2,y3,y4,y5,y6,l5,g5,l6,g6⟩:=at_T24 gl (i : Int) (by omega) (by omega)
 obtain ⟨x,hx⟩ : ∃ x,rd_T24 l (i : Int) = x:=⟨_,rfl⟩
 rw [hx] at y0 y1 y2 y3 y4 y5 y6 l5 g5 l6 g6
 have hxm : x = l[i]:=by rw [← hx,rd_T24_get l hi]
 have rx : Rd w x X5 x5 X6 x6:=⟨g5,l5,g6,l6⟩
 have hox : Okp x:=by rw [hxm]; exact hl _ (List.getElem_mem hi)
 simp only [Int.toNat_natCast] at y0 y1 y2 y3 y4 y5 y6
 clear l5 g5 l6 g6 hx
 subst eA
 have i0 : (0 : Int) ≤ (i : Int):=by omega
 have i1 : (i : Int) < (l.length : Int):=by omega
 have hw1 : IntKind.i64.wrap ((i : Int) + 1) = (i : Int) + 1:=wrap_small _ (by omega) (by omega)
 obtain ⟨i0',hi',hz0,hz1,hz2⟩:=info_parts infoR
 have hcf:=cut_from 25 24 .i64 Tryd.underlying25 hi' 7 hz1 (some ad) l.length c ((i : Int) + 1) (by omega) (by omega)
 rw [show ((i : Int) + 1).toNat = i + 1 by omega] at hcf
 have hct:=cut_to 25 24 .i64 Tryd.underlying25 hi' (some ad) l.length c (i : Int) (by omega) (by omega) hlc
 rw [Int.toNat_natCast] at hct
 have gd:=Kd.C_drop (m:=i + 1) gl (by omega) hlc
 have gt:=Kd.C_take (m:=i) gl (by omega)
 obtain ⟨A2,hA2⟩ : ∃ A2,A2 = (if c = i + 1 then some ad else (some ad : Option Addr).map (·.add ((i + 1) * 7))):=⟨_,rfl⟩
 have hsz : k24.sz = 7:=rfl
 rw [hsz,← hA2] at gd
 rw [← hA2] at hcf
 obtain ⟨l2,hl2⟩ : ∃ l2,l2 = l.drop (i + 1):=⟨_,rfl⟩
 have hdl : l.length - (i + 1) = l2.length:=by rw [hl2,List.length_drop]
 rw [hdl] at hcf
 rw [← hl2] at gd
 obtain ⟨tt,htt⟩ : ∃ tt,tt = past x l2:=⟨_,rfl⟩
 have hpast : Aside0 (∀ W,Below w.heap.size w W → Calls Tryd.prog 26 #[.agg #[.int .i64 x.f0,.string x.f1,.string x.f2,.string x.f3,.int .i64 x.f4,.slice X5 x.f5.length x5,.slice X6 x.f6.length x6],.slice A2 l2.length (c - (i + 1))] W (fun e w' => ∃ v C5 e5 C6 e6,e = .returned (.tuple #[v,.agg (cs tt.2.1 C5 e5 C6 e6),.bool tt.2.2]) ∧ OwnRow (Rw w) 24 7 w' W.heap.size v tt.1 ∧ Rd w tt.2.1 C5 e5 C6 e6 ∧ Below W.heap.size W w')):=⟨fun W hW => by rw [htt]; exact past_row w x l2 X5 x5 X6 x6 A2 _ W hW hox (fun y hy => hl y (by rw [hl2] at hy; exact List.mem_of_mem_drop hy)) (by omega) rx (rows_rw gd hW)⟩
 replace y0:=Aside0.mk y0
 replace y1:=Aside0.mk y1
 replace y2:=Aside0.mk y2
 replace y3:=Aside0.mk y3
 replace y4:=Aside0.mk y4
 replace y5:=Aside0.mk y5
 replace y6:=Aside0.mk y6
 have hxa:=Aside0.mk hxm
 have hla:=Aside0.mk hl2
 have hta:=Aside0.mk htt
 have hdr:=Aside0.mk hdl
 have rxa:=Aside0.mk rx
 have gta:=Aside0.mk gt
 have gla:=Aside0.mk gl
 have ila:=Aside0.mk hi
 clear hxm hl2 htt hdl rx gd gt gl hA2 hox hsz
 go_enter Tryd.func40,Tryd.ntmps40
 go_upto_region 3 with (fail)
 go_cut [6,7,8] from 9 to 39 (fun v6 v7 v8 w' => ∃ g C5 e5 C6 e6,v7 = .pointer (some ⟨g,0,none⟩) ∧ v8 = .bool tt.2.2 ∧ Aside0 (PB w w tt (cs tt.2.1 C5 e5 C6 e6) g v6 C5 e5 C6 e6 w'))
 case first =>
  refine wp_region_held_drew (S:=fun W => Below w.heap.size w W) (by kernel_rfl) (below_drew (Below.refl _ _)) (fun _ => ?_)
  apply cutP (S:=PB w w tt zeroC)
  intro t0
  ·have hS : Below w.heap.size w (World.drew w):=below_drew (Below.refl _ _)
   generalize World.drew w = W at hS ⊢
   refine tkH (v:=?_) 0 (some 18) rfl rfl (by kernel_rfl) (by kernel_rfl) (fun _ _ _ h => h) (fun W' hSW => ?_) hS ?_
   rotate_left
   ·go_simp; (try with_reducible rfl)
   simp only [Act.put,List.setIfInBounds_toArray,List.set_cons_zero,List.set_cons_succ]
   refine tkH (v:=?_) 1 (some 19) rfl rfl (by kernel_rfl) (by kernel_rfl) (fun _ _ _ h => h) (fun W' hSW => ?_) hS ?_
   rotate_left
   ·go_simp; (try with_reducible rfl)
   simp only [Act.put,List.setIfInBounds_toArray,List.set_cons_zero,List.set_cons_succ]
   refine tkH (v:=?_) 2 (some 20) rfl rfl (by kernel_rfl) (by kernel_rfl) (fun _ _ _ h => h) (fun W' hSW => ?_) hS ?_
   rotate_left
   ·go_simp; (try with_reducible rfl)
   simp only [Act.put,List.setIfInBounds_toArray,List.set_cons_zero,List.set_cons_succ]
   refine tkH (v:=?_) 3 (some 21) rfl rfl (by kernel_rfl) (by kernel_rfl) (fun _ _ _ h => h) (fun W' hSW => ?_) hS ?_
   rotate_left
   ·have q0:=pw_cell_below hSW y0.out; have q1:=pw_cell_below hSW y1.out; have q2:=pw_cell_below hSW y2.out; have q3:=pw_cell_below hSW y3.out; have q4:=pw_cell_below hSW y4.out; have q5:=pw_cell_below hSW y5.out; have q6:=pw_cell_below hSW y6.out; go_simp; (try with_reducible rfl)
   simp only [Act.put,List.setIfInBounds_toArray,List.set_cons_zero,List.set_cons_succ]
   refine tkH (v:=?_) 4 (some 22) rfl rfl (by kernel_rfl) (by kernel_rfl) (fun _ _ _ h => h) (fun W' hSW => ?_) hS ?_
   rotate_left
   ·go_simp; (try with_reducible rfl)
   simp only [Act.put,List.setIfInBounds_toArray,List.set_cons_zero,List.set_cons_succ]
   refine tkH (v:=?_) 5 (some 23) rfl rfl (by kernel_rfl) (by kernel_rfl) (fun _ _ _ h => h) (fun W' hSW => ?_) hS ?_
   rotate_left
   ·go_simp; (try with_reducible rfl)
   simp only [Act.put,List.setIfInBounds_toArray,List.set_cons_zero,List.set_cons_succ]
   refine tkH (v:=?_) 6 (some 24) rfl rfl (by kernel_rfl) (by kernel_rfl) (fun _ _ _ h => h) (fun W' hSW => ?_) hS ?_
   rotate_left
   ·go_simp; (try with_reducible rfl)
   simp only [Act.put,List.setIfInBounds_toArray,List.set_cons_zero,List.set_cons_succ]
   refine tkH (v:=?_) 7 (some 25) rfl rfl (by kernel_rfl) (by kernel_rfl) (fun _ _ _ h => h) (fun W' hSW => ?_) hS ?_
   rotate_left
   ·go_simp; (try with_reducible rfl)
   simp only [Act.put,List.setIfInBounds_toArray,List.set_cons_zero,List.set_cons_succ]
   refine wpAnyH_ready (rs:=[8,13]) (by kernel_rfl) (by simp) (AllReadyH.cons rfl (fun K hK => ?_) (AllReadyH.cons rfl (fun K hK => ?_) AllReadyH.nil))
   ·go_simp
    refine (hpast.out _ hS).mono ?_
    rintro e W ⟨v,C5,e5,C6,e6,rfl,hrow,hrd,hb⟩
    replace hrow:=hrow.lower hS.size
    replace hS:=hS.trans (hb.mono hS.size)
    refine hK.out _ _ hS (fun _ => ?_)
    clear hK K
    refine tkH (v:=?_) 9 (some 17) rfl rfl (by kernel_rfl) (by kernel_rfl) (fun _ _ _ h => h) (fun W' hSW => ?_) hS ?_
    rotate_left
    ·go_simp; (try with_reducible rfl)
    simp only [Act.put,List.setIfInBounds_toArray,List.set_cons_zero,List.set_cons_succ]
    refine tkH (v:=?_) 10 (some 27) rfl rfl (by kernel_rfl) (by kernel_rfl) (fun _ _ _ h => h) (fun W' hSW => ?_) hS ?_
    rotate_left
    ·go_simp; (try with_reducible rfl)
    simp only [Act.put,List.setIfInBounds_toArray,List.set_cons_zero,List.set_cons_succ]
    refine tkH (v:=?_) 11 (some 28) rfl rfl (by kernel_rfl) (by kernel_rfl) (fun _ _ _ h => h) (fun W' hSW => ?_) hS ?_
    rotate_left
    ·go_simp; (try with_reducible rfl)
    simp only [Act.put,List.setIfInBounds_toArray,List.set_cons_zero,List.set_cons_succ]
    refine tkH (v:=?_) 12 (some 29) rfl rfl (by kernel_rfl) (by kernel_rfl) (fun _ _ _ h => h) (fun W' hSW => ?_) hS ?_
    rotate_left
    ·go_simp; (try with_reducible rfl)
    simp only [Act.put,List.setIfInBounds_toArray,List.set_cons_zero,List.set_cons_succ]
    refine wpAnyH_ready (rs:=[13]) (by kernel_rfl) (by simp) (AllReadyH.cons rfl (fun K hK => ?_) AllReadyH.nil)
    go_simp
    have hP : PB w w tt zeroC W.heap.size v C5 e5 C6 e6 (W.alloc (.cells zeroC 24)):=⟨hS.alloc hS.size _,hS.size,blk_new _ _,hrow.below (below_alloc (Below.refl _ _) _),ne_new hrow (Nat.le_refl _),hrd⟩
    replace hS:=hS.alloc hS.size (.cells zeroC 24)
    refine hK.out _ _ hS (fun _ => ?_)
    clear hK K
    generalize W.heap.size = g at hP ⊢
    generalize W.alloc (.cells zeroC 24) = W at hP hS ⊢
    refine tkH (v:=?_) 14 (some 6) rfl rfl (by kernel_rfl) (by kernel_rfl) (fun _ _ _ h => h) (fun W' hSW => ?_) hS ?_
    rotate_left
    ·go_simp; (try with_reducible rfl)
    simp only [Act.put,List.setIfInBounds_toArray,List.set_cons_zero,List.set_cons_succ]
    exact wpAnyH_at (l':=#[true,true,true,true,true,true,true,true,true,true,true,true,true,true,true,false,false]) (by kernel_rfl) (t0 g v C5 e5 C6 e6 _ hP)
   ·go_simp
    have hbx : w.heap.size ≤ W.heap.size ∧ (W.alloc (.cells zeroC 24)).heap[W.heap.size]? = some (.cells zeroC 24 (0,0)):=⟨hS.size,blk_new _ _⟩
    replace hS:=hS.alloc hS.size (.cells zeroC 24)
    refine hK.out _ _ hS (fun _ => ?_)
    clear hK K
    generalize W.heap.size = g at hbx ⊢
    generalize W.alloc (.cells zeroC 24) = W at hbx hS ⊢
    refine wpAnyH_ready (rs:=[8]) (by kernel_rfl) (by simp) (AllReadyH.cons rfl (fun K hK => ?_) AllReadyH.nil)
    go_simp
    refine (hpast.out _ hS).mono ?_
    rintro e W ⟨v,C5,e5,C6,e6,rfl,hrow,hrd,hb⟩
    have hP : PB w w tt zeroC g v C5 e5 C6 e6 _:=⟨hS.trans (hb.mono hS.size),hbx.1,blk_below hbx.2 hb,hrow.lower hS.size,ne_base hrow (blk_lt hbx.2),hrd⟩
    replace hS:=hS.trans (hb.mono hS.size)
    refine hK.out _ _ hS (fun _ => ?_)
    clear hK K
    refine tkH (v:=?_) 9 (some 17) rfl rfl (by kernel_rfl) (by kernel_rfl) (fun _ _ _ h => h) (fun W' hSW => ?_) hS ?_
    rotate_left
    ·go_simp; (try with_reducible rfl)
    simp only [Act.put,List.setIfInBounds_toArray,List.set_cons_zero,List.set_cons_succ]
    refine tkH (v:=?_) 10 (some 27) rfl rfl (by kernel_rfl) (by kernel_rfl) (fun _ _ _ h => h) (fun W' hSW => ?_) hS ?_
    rotate_left
    ·go_simp; (try with_reducible rfl)
    simp only [Act.put,List.setIfInBounds_toArray,List.set_cons_zero,List.set_cons_succ]
    refine tkH (v:=?_) 11 (some 28) rfl rfl (by kernel_rfl) (by kernel_rfl) (fun _ _ _ h => h) (fun W' hSW => ?_) hS ?_
    rotate_left
    ·go_simp; (try with_reducible rfl)
    simp only [Act.put,List.setIfInBounds_toArray,List.set_cons_zero,List.set_cons_succ]
    refine tkH (v:=?_) 12 (some 29) rfl rfl (by kernel_rfl) (by kernel_rfl) (fun _ _ _ h => h) (fun W' hSW => ?_) hS ?_
    rotate_left
    ·go_simp; (try with_reducible rfl)
    simp only [Act.put,List.setIfInBounds_toArray,List.set_cons_zero,List.set_cons_succ]
    refine tkH (v:=?_) 14 (some 6) rfl rfl (by kernel_rfl) (by kernel_rfl) (fun _ _ _ h => h) (fun W' hSW => ?_) hS ?_
    rotate_left
    ·go_simp; (try with_reducible rfl)
    simp only [Act.put,List.setIfInBounds_toArray,List.set_cons_zero,List.set_cons_succ]
    exact wpAnyH_at (l':=#[true,true,true,true,true,true,true,true,true,true,true,true,true,true,true,false,false]) (by kernel_rfl) (t0 g v C5 e5 C6 e6 _ hP)
  ·intro g v C5 e5 C6 e6 W hP
   have hS:=hP.below
   obtain ⟨k0,k1,k2,k3,k4,k5,k6⟩:=cells7 hP.box
   obtain ⟨f0,f1,f2,f3,f4,f5,f6⟩:=frozen7 hP.box
   refine wpAnyH_ready (rs:=[15]) (by kernel_rfl) (by simp) (AllReadyH.cons rfl (fun K hK => ?_) AllReadyH.nil)
   go_simp
   replace hP:=hP.set rfl (.int .i64 tt.2.1.f0) (.string tt.2.1.f1) (.string tt.2.1.f2) (.string tt.2.1.f3) (.int .i64 tt.2.1.f4) (.slice C5 tt.2.1.f5.length e5) (.slice C6 tt.2.1.f6.length e6)
   replace hS:=hP.below
   clear k0 f0 k1 f1 k2 f2 k3 f3 k4 f4 k5 f5 k6 f6
   refine hK.out _ _ hS (fun _ => ?_)
   clear hK K
   refine tkH (v:=?_) 16 (some 8) rfl rfl (by kernel_rfl) (by kernel_rfl) (fun _ _ _ h => h) (fun W' hSW => ?_) hS ?_
   rotate_left
   ·go_simp; (try with_reducible rfl)
   simp only [Act.put,List.setIfInBounds_toArray,List.set_cons_zero,List.set_cons_succ]
   refine wpAnyH_done (by kernel_rfl) ?_ _
   go_wp2
   go_meet
   case rel => exact ⟨_,_,_,_,_,rfl,rfl,⟨hP⟩⟩
 case rest =>
  obtain ⟨g,C5,e5,C6,e6,rfl,rfl,hP⟩:=hcut
  clear hpast hcf c1 c2 y0 y1 y2 y3 y4 y5 y6
  cases hps : pastS x l2 with
  | none =>
   have e1 : tt = ([],z24,false):=by rw [hta.out,past_no hps]
   have hz : Aside0 (lastP l (i : Int) = ([],false)):=⟨by rw [lastP_in ila.out]; exact lastS_no ila.out (by rw [← hxa.out,← hla.out]; exact hps)⟩
   have hbz:=Aside0.mk hP.out.below
   rw [e1]
   clear e1 hps hP
   go_wp2
   refine bodyPost_ret (ret40 rfl rfl) rfl ?_
   exact ⟨none,0,by rw [hz.out]; rfl,by rw [hz.out]; exact Kd.C_nil _ _,by rw [hz.out]; exact Nat.le_refl _,hbz.out⟩
  | some yr =>
   obtain ⟨ys,r⟩:=yr
   have e1 : tt = (ys,r,true):=by rw [hta.out,past_yes hps]
   have hyl : ys.length = l2.length:=past_len _ _ _ _ hps
   have hz : Aside0 (lastP l (i : Int) = (l.take i ++ (ys ++ [r]),true)):=⟨by rw [lastP_in ila.out]; exact lastS_yes ila.out (by rw [← hxa.out,← hla.out]; exact hps)⟩
   rw [e1] at hP ⊢
   have hbz:=Aside0.mk hP.out.below
   have xr:=hP.out.box
   obtain ⟨D,d,rfl,hd,gy⟩:=hP.out.row.reads
   have rr:=Aside0.mk hP.out.rd
   replace gy:=Aside0.mk gy
   replace hyl:=Aside0.mk hyl
   have hge:=Aside0.mk hP.out.ge
   clear e1 hps hP
   have hlt : (l.take i).length = i:=by rw [List.length_take]; have:=ila.out; omega
   rw [hlt] at gta
   replace hlt:=Aside0.mk hlt
   obtain ⟨L,hL⟩ : ∃ L,L = l.take i ++ (ys ++ [r]):=⟨_,rfl⟩
   rw [← hL] at hz
   replace hL:=Aside0.mk hL
   go_upto_region 6 with (fail)
   go_cut [4,5] from 9 to 39 (fun v4 v5 w' => ∃ D' d',v4 = .slice D' L.length d' ∧ v5 = .bool true ∧ Aside0 (Kd.C k24 w' D' L.length L) ∧ Aside0 (L.length ≤ d') ∧ Aside0 (Below wc.heap.size wc w'))
   case first =>
    refine wp_region_held_drew (S:=fun W => Below wc.heap.size wc W) (by kernel_rfl) (below_drew (Below.refl _ _)) (fun _ => ?_)
    have hS : Below wc.heap.size wc (World.drew wc):=below_drew (Below.refl _ _)
    generalize World.drew wc = W at hS ⊢
    refine tkH (v:=?_) 0 (some 32) rfl rfl (by kernel_rfl) (by kernel_rfl) (fun _ _ _ h => h) (fun W' hSW => ?_) hS ?_
    rotate_left
    ·go_simp; (try with_reducible rfl)
    simp only [Act.put,List.setIfInBounds_toArray,List.set_cons_zero,List.set_cons_succ]
    refine tkH (v:=?_) 1 (some 33) rfl rfl (by kernel_rfl) (by kernel_rfl) (fun _ _ _ h => h) (fun W' hSW => ?_) hS ?_
    rotate_left
    ·go_simp; (try with_reducible rfl)
    simp only [Act.put,List.setIfInBounds_toArray,List.set_cons_zero,List.set_cons_succ]
    refine tkH (v:=?_) 2 (some 34) rfl rfl (by kernel_rfl) (by kernel_rfl) (fun _ _ _ h => h) (fun W' hSW => ?_) hS ?_
    rotate_left
    ·go_simp; (try with_reducible rfl)
    simp only [Act.put,List.setIfInBounds_toArray,List.set_cons_zero,List.set_cons_succ]
    refine tkH (v:=?_) 3 (some 35) rfl rfl (by kernel_rfl) (by kernel_rfl) (fun _ _ _ h => h) (fun W' hSW => ?_) hS ?_
    rotate_left
    ·go_simp; (try with_reducible rfl)
    simp only [Act.put,List.setIfInBounds_toArray,List.set_cons_zero,List.set_cons_succ]
    refine tkH (v:=?_) 4 (some 36) rfl rfl (by kernel_rfl) (by kernel_rfl) (fun _ _ _ h => h) (fun W' hSW => ?_) hS ?_
    rotate_left
    ·obtain ⟨k0,k1,k2,k3,k4,k5,k6⟩:=cells7 (blk_below xr hSW); go_simp; (try with_reducible rfl)
    simp only [Act.put,List.setIfInBounds_toArray,List.set_cons_zero,List.set_cons_succ]
    refine wpAnyH_ready (rs:=[5]) (by kernel_rfl) (by simp) (AllReadyH.cons rfl (fun K hK => ?_) AllReadyH.nil)
    go_simp
    have x1:=blk_new W (.cells #[.int .i64 r.f0,.string r.f1,.string r.f2,.string r.f3,.int .i64 r.f4,.slice C5 r.f5.length e5,.slice C6 r.f6.length e6] 24)
    replace hS:=hS.alloc hS.size (.cells #[.int .i64 r.f0,.string r.f1,.string r.f2,.string r.f3,.int .i64 r.f4,.slice C5 r.f5.length e5,.slice C6 r.f6.length e6] 24)
    refine hK.out _ _ hS (fun _ => ?_)
    clear hK K
    generalize W.heap.size = g1 at x1 ⊢
    generalize W.alloc (.cells #[.int .i64 r.f0,.string r.f1,.string r.f2,.string r.f3,.int .i64 r.f4,.slice C5 r.f5.length e5,.slice C6 r.f6.length e6] 24) = W at x1 hS ⊢
    refine wpAnyH_ready (rs:=[6]) (by kernel_rfl) (by simp) (AllReadyH.cons rfl (fun K hK => ?_) AllReadyH.nil)
    go_simp
    have hS2:=hS.alloc hS.size (.cells #[.slice (some ad) i c,.slice D ys.length d,.slice (some ⟨g1,0,none⟩) 1 1] 25)
    have x2:=blk_new W (.cells #[.slice (some ad) i c,.slice D ys.length d,.slice (some ⟨g1,0,none⟩) 1 1] 25)
    have x3:=blk_alloc x1 (.cells #[.slice (some ad) i c,.slice D ys.length d,.slice (some ⟨g1,0,none⟩) 1 1] 25)
    replace hS:=hS2
    refine hK.out _ _ hS (fun _ => ?_)
    clear hK K
    generalize W.heap.size = g2 at x2 ⊢
    generalize W.alloc (.cells #[.slice (some ad) i c,.slice D ys.length d,.slice (some ⟨g1,0,none⟩) 1 1] 25) = W at x2 x3 hS hS2 ⊢
    refine wpAnyH_ready (rs:=[7]) (by kernel_rfl) (by simp) (AllReadyH.cons rfl (fun K hK => ?_) AllReadyH.nil)
    go_simp
    have hBW : Below w.heap.size w W:=hbz.out.trans (hS.mono hbz.out.size)
    have k1 : ReadsRow (Rw W) 7 W (some ad) (l.take i).length (l.take i):=rows_rw (Kd.C_below (by rw [hlt.out]; exact gta.out) hBW) (Below.refl _ _)
    have k2 : ReadsRow (Rw W) 7 W D ys.length ys:=ReadsRow.imp_ gy.out hS (fun _ _ hq => rw_up hBW hq)
    have k3 : ReadsRow (Rw W) 7 W (some ⟨g1,0,none⟩) [r].length [r]:=⟨rfl,by simp,fun _ => ⟨_,rfl,fun j p hj => by
     obtain rfl : j = 0:=by have:=(List.getElem?_eq_some_iff.1 hj).1; simpa using this
     obtain rfl : r = p:=by simpa using hj
     exact ⟨[.int .i64 r.f0,.string r.f1,.string r.f2,.string r.f3,.int .i64 r.f4,.slice C5 r.f5.length e5,.slice C6 r.f6.length e6],rfl,⟨_,_,_,_,rfl,rr.out.below hBW⟩,fun j u hu => by
      rw [show ((⟨g1,0,none⟩ : Addr).add (0 * 7 + j)) = ⟨g1,j,none⟩ from by unfold Addr.add; split <;> simp_all]
      exact (blk_cell x3 j).trans (by simpa using hu)⟩⟩⟩
    refine (concat_at [(some ad,c,l.take i),(D,d,ys),(some ⟨g1,0,none⟩,1,[r])] g2 3 W ?q1 ?q2 ?q3 (by simp)).mono ?_
    case q1 => intro j q hj; match j,hj with | 0,hj => (cases hj; rw [hlt.out]; exact (blk_cell x2 0).trans rfl) | 1,hj => (cases hj; exact (blk_cell x2 1).trans rfl) | 2,hj => (cases hj; exact (blk_cell x2 2).trans rfl) | n + 3,hj => simp at hj
    case q2 => intro q hq; simp only [List.mem_cons,List.not_mem_nil,or_false] at hq; rcases hq with rfl | rfl | rfl <;> first | exact k1 | exact k2 | exact k3
    case q3 => unfold flatS; simp; have:=hyl.out; have:=hdr.out; have:=ila.out; have:=hlt.out; omega
    rintro e W2 ⟨v4,rfl,hv,hb⟩
    have hfl : flatS [(some ad,c,l.take i),(D,d,ys),(some ⟨g1,0,none⟩,1,[r])] = L:=by rw [hL.out]; simp [flatS]
    rw [hfl] at hv
    obtain ⟨D4,d4,rfl,hd4,gC⟩:=row_C hv hb
    clear k1 k2 k3 hfl hv
    replace hS:=hS.trans (hb.mono hS.size)
    clear hb
    refine hK.out _ _ hS (fun _ => ?_)
    clear hK K
    refine tkH (v:=?_) 8 (some 4) rfl rfl (by kernel_rfl) (by kernel_rfl) (fun _ _ _ h => h) (fun W' hSW => ?_) hS ?_
    rotate_left
    ·go_simp; (try with_reducible rfl)
    simp only [Act.put,List.setIfInBounds_toArray,List.set_cons_zero,List.set_cons_succ]
    refine tkH (v:=?_) 9 (some 5) rfl rfl (by kernel_rfl) (by kernel_rfl) (fun _ _ _ h => h) (fun W' hSW => ?_) hS ?_
    rotate_left
    ·go_simp; (try with_reducible rfl)
    simp only [Act.put,List.setIfInBounds_toArray,List.set_cons_zero,List.set_cons_succ]
    refine wpAnyH_done (by kernel_rfl) ?_ _
    go_wp2
    go_meet
    case rel => exact ⟨_,_,rfl,rfl,⟨gC⟩,⟨hd4⟩,⟨hS⟩⟩
   case rest =>
    obtain ⟨D',d',rfl,rfl,gC,hd',hb⟩:=hcut
    go_wp2
    refine bodyPost_ret (ret40 rfl rfl) rfl ?_
    exact ⟨D',d',by rw [hz.out]; rfl,by rw [hz.out]; exact gC.out,by rw [hz.out]; exact hd'.out,hbz.out.trans (hb.out.mono hbz.out.size)⟩
theorem lit0 (w : World) (base : Nat) (hb : base ≤ w.heap.size) : Kd.N k24 24 (w.alloc (.cells #[] 24)) base (fun _ => True) (.slice (some ⟨w.heap.size,0,none⟩) 0 0) []:=by
 have hr : Reps (fun x c => Kd.FK k24 w (fun _ => False) x c) k24.sz [] []:=Reps.none _ _
 have ho : Kd.NN k24 24 (w.alloc (.cells #[] 24)) w.heap.size (fun _ => False) (.slice (some ⟨w.heap.size,0,none⟩) 0 0) [] :=
  OwnRow.lit w w.heap.size (hr.imp_ (fun _ _ h => Kd.FK_below h (below_alloc (Below.refl _ _) _))) (Nat.le_refl _) (by simp)
 exact Kd.N_lower (Kd.N_mono (Kd.NN_N ho (fun _ h => h.elim)) (fun _ _ => trivial)) hb
end Go.Proofs.YthhohbidjhcjeaaDoor.H
namespace Go.Proofs
open Go.Shelf
def Tryd.revP_ren : Go.Shelf.Ren := ⟨fun | 35 => 72 | n => n, fun | 22 => 25 | 23 => 24 | 3 => 3 | 4 => 4 | 0 => 0 | n => n, fun | n => n⟩
theorem Tryd.revP : Go.Proofs.SlLaysE0.n35 Tryd.prog Tryd.revP_ren := {
  mixed := by kernel_rfl
  f35 := ⟨Tryd.f72.name, by decide, Tryd.func72.trans (congrArg some (by kernel_rfl))⟩
  t0 := Tryd.underlying0
  a0 := Tryd.isAgg0
  z0 := Tryd.sizeOf0
  v0 := Tryd.zeroValue0
  t3 := Tryd.underlying3
  a3 := Tryd.isAgg3
  z3 := Tryd.sizeOf3
  v3 := Tryd.zeroValue3
  t4 := Tryd.underlying4
  a4 := Tryd.isAgg4
  z4 := Tryd.sizeOf4
  v4 := Tryd.zeroValue4
  t22 := Tryd.underlying25
  a22 := Tryd.isAgg25
  z22 := Tryd.sizeOf25
  v22 := Tryd.zeroValue25 }
end Go.Proofs
namespace Go.Proofs.YthhohbidjhcjeaaDoor.H
open Go.RowKit Go.Sort Go.Proofs.YthhohbidjhcjeaaDoorW.PrintWords Go.Proofs.YthhohbidjhcjeaaDoorW.PrintLast Go.Proofs.YthhohbidjhcjeaaDoorW.PrintMore
open Go.Proofs.YthhohbidjhcjeaaDoor.Q Go.Proofs.YthhohbidjhcjeaaDoor.Pl
set_option linter.unusedVariables false
/-- Seven cells. -/
abbrev C7:={ c : List Value // c.length = 7 ∧ ∀ v ∈ c,v.oneCell' = true }
instance : Inhabited C7:=⟨⟨List.replicate 7 (.int .i64 0),by simp,by intro v hv; rw [List.eq_of_mem_replicate hv]; rfl⟩⟩
def enc7 (c : C7) : List Value:=c.1
theorem chunk7 {cs : List Value} {n j : Nat} (hl : cs.length = n * 7) (hj : j < n) : ((cs.drop (j * 7)).take 7).length = 7:=by
 rw [List.length_take,List.length_drop]
 omega
def chunkC (cs : List Value) (n : Nat) (hl : cs.length = n * 7) (h1 : ∀ v ∈ cs,v.oneCell' = true) (j : Fin n) : C7 :=
 ⟨(cs.drop (j.1 * 7)).take 7,chunk7 hl j.2,fun v hv => h1 v (List.mem_of_mem_drop (List.mem_of_mem_take hv))⟩
theorem flat_chunks (cs : List Value) (n : Nat) (hl : cs.length = n * 7) (h1 : ∀ v ∈ cs,v.oneCell' = true) : flatK enc7 7 (Array.ofFn (chunkC cs n hl h1)) = cs.toArray:=by
 refine ext_get! (by simp [hl]) fun t ht => ?_
 have ht' : t < n * 7:=by simpa using ht
 have hq : t / 7 < n:=by omega
 rw [get_flatK _ _ _ t (by simpa using ht')]
 have hd : (Array.ofFn (chunkC cs n hl h1))[t / 7]! = chunkC cs n hl h1 ⟨t / 7,hq⟩:=by
  rw [getElem!_pos _ _ (by simpa using hq),Array.getElem_ofFn]
 rw [hd]
 have hm : t % 7 < 7:=Nat.mod_lt _ (by omega)
 have hlen:=chunk7 hl hq
 show ((cs.drop (t / 7 * 7)).take 7)[t % 7]! = _
 rw [getElem!_pos _ _ (by rw [hlen]; exact hm),List.getElem_take,List.getElem_drop,getElem!_pos _ _ (by simpa [hl] using ht')]
 simp only [List.getElem_toArray]
 congr 1
 omega
theorem chunk_flat (d : Array C7) (j : Nat) (hj : j < d.size) : ((flatK enc7 7 d).toList.drop (j * 7)).take 7 = enc7 d[j]!:=by
 have hlen : (enc7 d[j]!).length = 7:=(d[j]!).2.1
 have hsz : (flatK enc7 7 d).toList.length = d.size * 7:=by simp
 refine List.ext_getElem (by rw [List.length_take,List.length_drop,hsz,hlen]; omega) fun t h1 h2 => ?_
 have ht : t < 7:=by omega
 rw [List.getElem_take,List.getElem_drop,Array.getElem_toList]
 have h3 : j * 7 + t < d.size * 7:=by omega
 have h4:=get_flatK enc7 7 d (j * 7 + t) h3
 rw [getElem!_pos _ _ (by simpa using h3)] at h4
 rw [h4,show (j * 7 + t) / 7 = j by omega,show (j * 7 + t) % 7 = t by omega,getElem!_pos _ _ (by omega)]
theorem holds_id {w : World} {g : Nat} {cur : Array Value} {e : TypeId} {cs : List Value} (hb : w.heap[g]? = some (.cells cur e (0,0))) (ht : cur.toList.take cs.length = cs) : Holds id w g 0 cs.toArray:=by
 intro j hj
 have hj' : j < cs.length:=by simpa using hj
 refine ⟨?_,by simp [World.frozen?,hb]⟩
 have h1 : (cur.toList.take cs.length)[j]? = cs[j]?:=by rw [ht]
 rw [List.getElem?_take_of_lt hj'] at h1
 simp only [World.cell?,hb,Nat.zero_add]
 simp only [Option.isSome_none,Bool.false_eq_true,if_false]
 rw [← Array.getElem?_toList,h1]
 simp [hj']
theorem heap_put {w : World} {g n : Nat} {cur : Array Value} {e : TypeId} {fr : Nat × Nat} (F : Array Value) (hb : w.heap[g]? = some (.cells cur e fr)) :
  (putRow id (Sort.ahead w n) g 0 F).heap[g]? = some (.cells (putCells id 0 F cur) e fr):=by
 simp [putRow,mapBlock,Sort.ahead,Array.getElem?_modify,hb,onCells]
theorem grownBy_put {w : World} {g n : Nat} (F : Array Value) : w.grownBy (putRow id (Sort.ahead w n) g 0 F) (some g):=by
 refine ⟨rfl,rfl,rfl,by simp [putRow,mapBlock,Sort.ahead],fun k hk hne => ?_⟩
 have : g ≠ k:=fun e => hne (by rw [e])
 simp [putRow,mapBlock,Sort.ahead,Array.getElem?_modify,this]
theorem take_put (cur : Array Value) (ts : List Value) (h : ts.length ≤ cur.size) : (putCells id 0 ts.toArray cur).toList.take ts.length = ts:=by
 apply List.ext_getElem?
 intro j
 by_cases hj : j < ts.length
 ·rw [List.getElem?_take_of_lt hj,Array.getElem?_toList]
  simp [putCells,hj,show j < cur.size by omega]
 ·rw [List.getElem?_take_eq_none (by omega),List.getElem?_eq_none (by omega)]
/-- slices.Reverse of a row of one's own: the same row, its elements the other way about; all other blocks as they were. -/
theorem reverse_at (w : World) (xs : List S24) (W : World) (base : Nat) (v : Value) (h : OwnRow (Rw w) 24 7 W base v xs) :
  Calls Tryd.prog 72 #[v] W fun e W' => e = .returned (.tuple #[]) ∧ OwnRow (Rw w) 24 7 W' base v xs.reverse ∧ W.grownBy W' v.ownBlock:=by
 obtain ⟨inner,ho,hr⟩:=h
 have hlen:=hr.1
 have h1:=reps_one hr
 rcases ho.2 with ⟨rfl,hn⟩ | ⟨g,cap,cur,rfl,hbase,hb,hnc,hcm,hcs,htk⟩
 ·have hx : xs = []:=List.eq_nil_of_length_eq_zero hn
  subst hx
  refine (AnyQ.slices_Reverse_empty Tryd.revP none 0 W).mono ?_
  rintro e W' ⟨rfl,rfl⟩
  exact ⟨rfl,⟨inner,ho,hr⟩,⟨rfl,rfl,rfl,Nat.le_refl _,fun _ _ _ => rfl⟩⟩
 ·have hF:=flat_chunks inner xs.length hlen h1
  have hH : HoldsK enc7 7 W g 0 (Array.ofFn (chunkC inner xs.length hlen h1)):=by
   show Holds id W g 0 _
   rw [hF]
   refine holds_id hb ?_
   rw [hlen]
   exact htk
  have hm : xs.length ≤ 9223372036854775807:=by simp only [maxLen] at hcm; omega
  have hc:=AnyQ.slices_Reverse Tryd.revP 7 Tryd.isAgg24 Tryd.sizeOf24 enc7 (fun x => x.2.1) (fun x v hv => x.2.2 v hv) g 0 cap (Array.ofFn (chunkC inner xs.length hlen h1)) W hH (by simpa using hm)
  rw [Array.size_ofFn] at hc
  refine hc.mono ?_
  rintro e W' ⟨rfl,n,rfl⟩
  obtain ⟨ts,hts⟩ : ∃ ts : List Value,ts = (flatK enc7 7 (Array.ofFn (chunkC inner xs.length hlen h1)).reverse).toList:=⟨_,rfl⟩
  have htl : ts.length = xs.length * 7:=by rw [hts]; simp
  have hta : flatK enc7 7 (Array.ofFn (chunkC inner xs.length hlen h1)).reverse = ts.toArray:=by rw [hts]
  refine ⟨rfl,⟨ts,?_,?_⟩,?_⟩
  ·rw [List.length_reverse]
   refine ⟨htl,.inr ⟨g,cap,putCells id 0 ts.toArray cur,rfl,hbase,?_,hnc,hcm,by simp [putCells,hcs],?_⟩⟩
   ·show (putRow id (Sort.ahead W n) g 0 _).heap[g]? = _
    rw [hta]
    exact heap_put _ hb
   ·rw [← htl]
    exact take_put cur ts (by rw [htl,hcs]; exact Nat.mul_le_mul_right _ hnc)
  ·refine ⟨by rw [htl,List.length_reverse],fun j p hj => ?_⟩
   have hjl : j < xs.length:=by have:=(List.getElem?_eq_some_iff.1 hj).1; simpa using this
   rw [hts,chunk_flat _ j (by simpa using hjl)]
   have hk : xs.length - 1 - j < xs.length:=by omega
   have e1 : (Array.ofFn (chunkC inner xs.length hlen h1)).reverse[j]! = chunkC inner xs.length hlen h1 ⟨xs.length - 1 - j,hk⟩:=by
    rw [getElem!_pos _ _ (by simpa using hjl),Array.getElem_reverse,Array.getElem_ofFn]
    simp
   rw [e1]
   refine hr.2 _ p ?_
   rw [← hj,List.getElem?_reverse hjl]
  ·show W.grownBy (putRow id (Sort.ahead W n) g 0 _) _
   exact grownBy_put _
end Go.Proofs.YthhohbidjhcjeaaDoor.H
namespace Go.Proofs.YthhohbidjhcjeaaDoor.H
open Go.RowKit Go.Shelf Go.Proofs.YthhohbidjhcjeaaDoorW.PrintWords Go.Proofs.YthhohbidjhcjeaaDoorW.PrintLast Go.Proofs.YthhohbidjhcjeaaDoorW.PrintMore
open Go.Proofs.YthhohbidjhcjeaaDoor.Q Go.Proofs.YthhohbidjhcjeaaDoor.Pl
set_option linter.unusedVariables false
set_option linter.unusedSimpArgs false
set_option maxHeartbeats 4000000 in
set_option maxRecDepth 100000 in
theorem clone_row (w : World) (l : List S24) (A : Option Addr) (c : Nat) (W : World) (hB : Below w.heap.size w W) (hn : l.length ≤ 1256584717458) (h : ReadsRow (Rw w) 7 W A l.length l) :
  Calls Tryd.prog 71 #[.slice A l.length c] W fun e W' => ∃ v,e = .returned v ∧ OwnRow (Rw w) 24 7 W' W.heap.size v l ∧ Below W.heap.size W W':=by
 have q25 : ∀ (w : World) (a : Option Addr) (n c n' c' : Nat),(binOp .eql 25 (.slice a n c) (.slice none n' c')).run Tryd.prog w = .ok (.bool a.isNone) w:=fun w a n c n' c' => Go.Lib.run_eql_slice_nil w _ _ a n c n' c' Tryd.underlying25
 cases A with
 | none =>
  have hl : Aside0 (l = []):=⟨List.eq_nil_of_length_eq_zero (by
   rcases Nat.eq_zero_or_pos l.length with h0 | h0
   ·exact h0
   ·obtain ⟨ad,he,_⟩:=h.2.2 h0
    cases he)⟩
  have hB':=Aside0.mk hB
  clear h hB
  go_enter Tryd.func71,Tryd.ntmps71
  go_wp2
  go_ret
  exact ⟨_,rfl,by rw [hl.out]; exact OwnRow.none_ _ _ _ _ _,Below.refl _ _⟩
 | some ad =>
  obtain ⟨inner,hr,hc⟩:=h.inner_
  have hr':=Aside0.mk hr
  have hc':=Aside0.mk hc
  have h1:=Aside0.mk (reps_one hr)
  have hB':=Aside0.mk hB
  have hsz:=Aside0.mk hB.size
  have hn1 : Aside0 (0 + l.length ≤ maxLen):=⟨by unfold maxLen; omega⟩
  have hn2 : Aside0 ((0 + l.length) * 112 ≤ 140737488355328):=⟨by rw [Nat.zero_add]; exact Nat.le_trans (Nat.mul_le_mul_right 112 hn) (by decide)⟩
  have hl:=Aside0.mk hr.1
  clear h hr hc hB hn
  obtain ⟨i0,hi,hz0,hz1,hz2⟩:=info_parts infoR
  have hi':=Aside0.mk hi
  have hz0':=Aside0.mk hz0
  have hz1':=Aside0.mk hz1
  have hz2':=Aside0.mk hz2
  clear hi hz0 hz1 hz2
  go_enter Tryd.func71,Tryd.ntmps71
  go_wp2_with (at_builtin; refine wpList_append_own_at _ rfl _ _ 25 rfl W.heap.size 24 i0 _ 7 112 Tryd.underlying25 hi'.out hz0'.out hz1'.out hz2'.out rfl (by omega) _ _ _ rfl (World.ownsRow_made W #[] 0 (Nat.le_refl _) (Nat.zero_le _) (by simp)) ad l.length c inner rfl hl.out ?qc2 h1.out hn1.out hn2.out ?qc6 ?_)
  case qc2 =>
   intro j u hj
   exact Lib.cell?_alloc_some _ (hc'.out j u hj)
  case qc6 => simp
  intro v' w1 hown hgrow hnil hblk
  go_wp2
  go_ret
  refine ⟨v',rfl,⟨inner,by simpa using hown,hr'.out⟩,?_⟩
  exact (below_alloc (Below.refl _ W) _).grown hgrow (by simp) (by intro k hk; simp [Value.ownBlock] at hk; omega)
attribute [local go_sem] Oper.semAt_some
/-- What a round is handed: a patch and its cells, which lead to what lay in w0. -/
abbrev ElZ (Z : S24 → Prop) (w0 : World) (ok : Nat → Prop):={ p : S24 × List Value // Kd.FK k24 w0 ok p.1 p.2 ∧ Z p.1 }
def encZ {Z : S24 → Prop} {w0 : World} {ok : Nat → Prop} (x : Nat × ElZ Z w0 ok) : Array Value:=#[.int .i64 (x.1 : Int),.agg x.2.1.2.toArray]
/-- What a round that goes on keeps: what lay in w0, and the box of the row. -/
def KpZ (w0 : World) (Bs : Nat) (W W' : World) : Prop:=Below w0.heap.size W W' ∧ ∀ v,W.cell? ⟨Bs,0,none⟩ = some v → W'.cell? ⟨Bs,0,none⟩ = some v

set_option maxRecDepth 100000 in
set_option maxHeartbeats 2000000 in
theorem back1Z (n : Nat) (hn : 1 ≤ n) (l Bs : Nat) (Z : S24 → Prop) (w0 : World) (ok : Nat → Prop) (A : Option Addr) (cap : Nat) (zs : List S24) (hlen : zs.length * 112 ≤ 140737488355328) (hF : Kd.F k24 w0 ok A zs.length zs) (hZ : ∀ z ∈ zs,Z z)
  (J Jx : List (Nat × ElZ Z w0 ok) → World → Prop)
  (hY : ∀ pre x W,J pre W → pre.length < zs.length → YieldAt Fence.wide (n - 1) Tryd.prog l (encZ x) W fun e W' =>
   (e = .returned (.bool true) ∧ J (pre ++ [x]) W' ∧ KpZ w0 Bs W W') ∨ (e = .returned (.bool false) ∧ Jx (pre ++ [x]) W'))
  (W : World) (hW : Below w0.heap.size w0 W) (hBs : W.cell? ⟨Bs,0,none⟩ = some (.slice A zs.length cap)) (h0 : J [] W) :
  CallsIn Fence.wide n Tryd.prog 83 #[.func (.yield l) #[] #[],.pointer (some ⟨Bs,0,none⟩)] W fun e W' => (∃ v,e = .returned v) ∧
   ((∃ ys : List (Nat × ElZ Z w0 ok),ys.map (fun y => y.2.1.1) = zs.reverse ∧ J ys W') ∨ (∃ pre : List (Nat × ElZ Z w0 ok),pre.map (fun y => y.2.1.1) <+: zs.reverse ∧ Jx pre W')):=by
 refine callsIn_of_wp Tryd.func83 rfl trivial ?_ rfl
 simp only [Tryd.ntmps83,List.size_toArray,List.length_cons,List.length_nil,Nat.reduceAdd,Nat.reduceSub,Array.replicate_succ,Array.replicate_zero,List.push_toArray,List.append_toArray,List.nil_append,List.cons_append]
 have hl63 : zs.length ≤ 9223372036854775807:=by omega
 gi_wp2
 gi_loopw [3] (fun i wr => ∃ (m : Nat) (pre : List (Nat × ElZ Z w0 ok)),m ≤ zs.length ∧ i = .int .i64 ((m : Int) - 1) ∧ J pre wr ∧ pre.length = zs.length - m ∧ pre.map (fun y => y.2.1.1) = zs.reverse.take (zs.length - m) ∧ wr.cell? ⟨Bs,0,none⟩ = some (.slice A zs.length cap) ∧ Below w0.heap.size w0 wr)
  (fun i _ => (intOf i + 1).toNat)
 case atStart => exact ⟨zs.length,[],Nat.le_refl _,rfl,h0,by simp,by simp,hBs,hW⟩
 case round =>
  obtain ⟨m,pre,hm,rfl,hJ,hpl,hpm,hBr,hWr⟩:=hrel
  cases m with
  | zero =>
   gi_wp2
   go_end0
   exact ⟨⟨_,rfl⟩,.inl ⟨pre,by rw [hpm]; exact List.take_of_length_le (by simp),hJ⟩⟩
  | succ j =>
   obtain ⟨ad,c,hA,hcl,hFK,hcc,_⟩:=Kd.F_get hF z24 (j : Int) (by omega) (by omega)
   simp only [Int.toNat_natCast] at hFK hcc
   have hsz : k24.sz = 7:=rfl
   rw [hsz] at hcc
   have hel : zs.reverse.take (zs.length - j) = zs.reverse.take (zs.length - (j + 1)) ++ [zs.getD j z24]:=by
    have e1 : zs.length - j = (zs.length - (j + 1)) + 1:=by omega
    rw [e1,List.take_succ_eq_append_getElem (by simp; omega)]
    congr 1
    rw [List.getElem_reverse]
    rw [List.getD_eq_getElem?_getD,List.getElem?_eq_getElem (by omega),Option.getD_some]
    congr 2
    omega
   have hZx : Z (zs.getD j z24):=by
    rw [List.getD_eq_getElem?_getD,List.getElem?_eq_getElem (by omega),Option.getD_some]
    exact hZ _ (List.getElem_mem _)
   obtain ⟨x,hx⟩ : ∃ x,x = zs.getD j z24:=⟨_,rfl⟩
   rw [← hx] at hel hFK hZx
   have HEL:=Lib.hid hel
   clear hx
   have HPM:=Lib.hid hpm
   have HPL:=Lib.hid hpl
   clear hel hpm hpl hsz
   obtain ⟨fn,tmps,assign,body,hy,hR⟩:=hY pre (j,⟨(x,c),hFK,hZx⟩) wr hJ (by rw [HPL.out]; omega)
   obtain ⟨A5,c5,A6,c6,hce,_⟩:=k24_openF hFK
   dsimp only [encZ] at hy
   rw [hce] at hy hcc
   subst hA
   have q0:=pw_cell_below hWr (hcc 0 _ rfl)
   have q1:=pw_cell_below hWr (hcc 1 _ rfl)
   have q2:=pw_cell_below hWr (hcc 2 _ rfl)
   have q3:=pw_cell_below hWr (hcc 3 _ rfl)
   have q4:=pw_cell_below hWr (hcc 4 _ rfl)
   have q5:=pw_cell_below hWr (hcc 5 _ rfl)
   have q6:=pw_cell_below hWr (hcc 6 _ rfl)
   rw [Nat.add_zero] at q0
   rw [add_field _ _ 1 (by omega)] at q1
   rw [add_field _ _ 2 (by omega)] at q2
   rw [add_field _ _ 3 (by omega)] at q3
   rw [add_field _ _ 4 (by omega)] at q4
   rw [add_field _ _ 5 (by omega)] at q5
   rw [add_field _ _ 6 (by omega)] at q6
   clear hcc hcl
   have HCE:=Lib.hid hce
   clear hce
   have ej : (((j + 1 : Nat) : Int) - 1) = (j : Int):=by omega
   rw [ej]
   clear ej
   gi_wp2
   refine hR.mono ?_
   rintro e W3 (⟨rfl,hJ3,hk3⟩ | ⟨rfl,hJx3⟩)
   ·have hB3:=hk3.2 _ hBr
    gi_wp2
    go_roundw
    case rel => exact ⟨j,pre ++ [(j,⟨(x,c),hFK,hZx⟩)],by omega,rfl,hJ3,by rw [List.length_append,HPL.out]; simp; omega,by rw [List.map_append,HPM.out,HEL.out]; rfl,hB3,hWr.trans hk3.1⟩
    case measure => simp [intOf]
   ·gi_wp2
    refine bodyPost_ret (results_none rfl _ _ _) rfl ?_
    exact ⟨⟨_,rfl⟩,.inr ⟨pre ++ [(j,⟨(x,c),hFK,hZx⟩)],by rw [List.map_append,HPM.out]; exact HEL.out ▸ List.take_prefix _ _,hJx3⟩⟩
set_option maxHeartbeats 1000000 in
theorem back_inZ (n : Nat) (A : Option Addr) (len cap : Nat) (w : World) :
  CallsIn Fence.wide n Tryd.prog 51 #[.slice A len cap] w fun e w' => e = .returned (.func (.func 83) #[] #[.pointer (some ⟨w.heap.size,0,none⟩)]) ∧ w' = w.alloc (.cells #[.slice A len cap] 25):=by
 refine callsIn_of_wp Tryd.func51 rfl trivial ?_ rfl
 simp only [Tryd.ntmps51,List.size_toArray,List.length_cons,List.length_nil,Nat.reduceAdd,Nat.reduceSub,Array.replicate_succ,Array.replicate_zero,List.push_toArray,List.append_toArray,List.nil_append,List.cons_append]
 gi_wp2
 go_ret
 exact ⟨rfl,rfl⟩

theorem back_stopsZ (n : Nat) (hn : 1 ≤ n) (Bs : Nat) (Z : S24 → Prop) (w0 w : World) (ok : Nat → Prop) (A : Option Addr) (cap : Nat) (zs : List S24) (hlen : zs.length * 112 ≤ 140737488355328) (hF : Kd.F k24 w0 ok A zs.length zs) (hZ : ∀ z ∈ zs,Z z)
  (hW : Below w0.heap.size w0 w) (hBs : w.cell? ⟨Bs,0,none⟩ = some (.slice A zs.length cap)) :
  SeqStopsK Fence.wide n Tryd.prog 83 #[.pointer (some ⟨Bs,0,none⟩)] (encZ (Z:=Z) (w0:=w0) (ok:=ok)) (KpZ w0 Bs) (fun ys => ys.map (fun y => y.2.1.1) = zs.reverse) (fun pre => pre.map (fun y => y.2.1.1) <+: zs.reverse) zs.length w :=
 fun l J Jx W hWW _ _ hY h0 => back1Z n hn l Bs Z w0 ok A cap zs hlen hF hZ J Jx hY W (hW.trans (hWW.mono hW.size)) (pw_cell_below hWW hBs) h0

end Go.Proofs.YthhohbidjhcjeaaDoor.H
namespace Go.Proofs.YthhohbidjhcjeaaDoor.H
open Go.RowKit Go.Shelf Go.Proofs.YthhohbidjhcjeaaDoorW.PrintWords Go.Proofs.YthhohbidjhcjeaaDoorW.PrintLast Go.Proofs.YthhohbidjhcjeaaDoorW.PrintMore
open Go.Proofs.YthhohbidjhcjeaaDoor.Q Go.Proofs.YthhohbidjhcjeaaDoor.Pl
set_option linter.unusedVariables false
set_option linter.unusedSimpArgs false
attribute [local go_sem] Oper.semAt_some
/-- Patches pass a row, one behind the other. -/
def runS (ps b : List S24) : Option (List S24 × List S24):=ps.foldl (fun s p => s.bind fun z => (pastS p z.1).map fun y => (y.1,z.2 ++ [y.2])) (some (b,[]))
theorem runS_snoc (ps : List S24) (p : S24) (b : List S24) : runS (ps ++ [p]) b = (runS ps b).bind fun z => (pastS p z.1).map fun y => (y.1,z.2 ++ [y.2]):=by
 unfold runS
 rw [List.foldl_append]
 rfl
theorem runS_none {ps : List S24} {b : List S24} (h : runS ps b = none) : ∀ qs,runS (ps ++ qs) b = none:=by
 intro qs
 unfold runS at h ⊢
 rw [List.foldl_append,h]
 induction qs with
 | nil => rfl
 | cons q qs ih => exact ih
theorem swap_run : ∀ a b : List S24,swapS a b = (runS a.reverse b).map fun z => (z.1,z.2.reverse)
 | [],b => rfl
 | p :: a,b => by
  rw [swapS,List.reverse_cons,runS_snoc,swap_run a b]
  cases runS a.reverse b with
  | none => rfl
  | some z =>
   simp only [Option.map_some,Option.bind_some]
   cases pastS p z.1 with
   | none => rfl
   | some y => simp
theorem okp_pasts : ∀ (a : List S24) (p : S24),Okp p → (∀ x ∈ a,Okp x) → ∀ y r,pastS p a = some (y,r) → Okp r ∧ (∀ x ∈ y,Okp x) ∧ y.length = a.length
 | [],p,hp,_,y,r,h => by
  simp only [pastS,Option.some.injEq,Prod.mk.injEq] at h
  obtain ⟨rfl,rfl⟩:=h
  exact ⟨hp,(fun x hx => by cases hx),rfl⟩
 | x :: a,p,hp,ha,y,r,h => by
  rcases comm_or p x with e | ⟨c,d,hy,e⟩
  ·rw [pastS,e,if_neg (by simp)] at h
   cases h
  ·obtain ⟨oc,od⟩:=okp_yes hy hp (ha x (List.mem_cons_self ..))
   rw [pastS,e,if_pos rfl] at h
   cases hq : pastS d a with
   | none =>
    rw [hq] at h
    cases h
   | some z =>
    rw [hq] at h
    obtain ⟨o1,o2,o3⟩:=okp_pasts a d od (fun z hz => ha z (List.mem_cons_of_mem _ hz)) z.1 z.2 hq
    simp only [Option.map_some,Option.some.injEq,Prod.mk.injEq] at h
    obtain ⟨rfl,rfl⟩:=h
    refine ⟨o1,fun w hw => ?_,by simp [o3]⟩
    rcases List.mem_cons.1 hw with rfl | hw
    ·exact oc
    ·exact o2 w hw
/-- The five boxes of Swap, the two rows of its own. -/
structure Sw (w : World) (vb vo : Value) (xb ys : List S24) (W : World) : Prop where
 below : Below w.heap.size w W
 b3 : Boxed W w.heap.size 25 vb
 b4 : Boxed W (w.heap.size + 1) 25 (.slice none 0 0)
 b5 : Boxed W (w.heap.size + 1 + 1) 25 (.slice none 0 0)
 b6 : Boxed W (w.heap.size + 1 + 1 + 1) 4 (.bool false)
 b7 : Boxed W (w.heap.size + 1 + 1 + 1 + 1) 25 vo
 rb : OwnRow (Rw w) 24 7 W (w.heap.size + 5) vb xb
 ro : OwnRow (Rw w) 24 7 W (w.heap.size + 5) vo ys
 ne : ∀ k,vb.ownBlock = some k → vo.ownBlock ≠ some k
theorem own_ne25 {w W : World} {base : Nat} {v : Value} {xs : List S24} (h : OwnRow (Rw w) 24 7 W base v xs) {B t : Nat} {u : Value} (hb : Boxed W B t u) (ht : 24 ≠ t) : some B ≠ v.ownBlock:=h.ne_block hb ht
theorem Sw.later {w W W' : World} {vb vo : Value} {xb ys : List S24} (h : Sw w vb vo xb ys W) (hb : Below W.heap.size W W') : Sw w vb vo xb ys W' :=
 ⟨h.below.trans (hb.mono h.below.size),blk_below h.b3 hb,blk_below h.b4 hb,blk_below h.b5 hb,blk_below h.b6 hb,blk_below h.b7 hb,h.rb.below hb,h.ro.below hb,h.ne⟩
/-- An object that holds no cells is none of these. -/
theorem Sw.own {w X Y : World} {vb vo : Value} {xb ys : List S24} (h : Sw w vb vo xb ys X) {row : Option Nat} (hg : X.grownBy Y row) (hr : ∀ r,row = some r → w.heap.size ≤ r ∧ ∃ o : Obj,X.heap[r]? = some o ∧ o.isCells = false) : Sw w vb vo xb ys Y:=by
 have nb : ∀ {B t : Nat} {u : Value},Boxed X B t u → some B ≠ row:=fun {B t u} hb e => by
  obtain ⟨_,o,ho,hc⟩:=hr B e.symm
  rw [show X.heap[B]? = _ from hb] at ho
  cases ho
  cases hc
 have no : ∀ {v : Value} {xs : List S24},OwnRow (Rw w) 24 7 X (w.heap.size + 5) v xs → v.ownBlock = none ∨ v.ownBlock ≠ row:=fun {v xs} hv => by
  obtain ⟨inner,ho,_⟩:=hv
  rcases hk : v.ownBlock with _ | k
  ·exact .inl rfl
  ·refine .inr fun e => ?_
   obtain ⟨cells,hc⟩:=own_typed ho k hk
   obtain ⟨_,o,ho',hcc⟩:=hr k e.symm
   rw [hc] at ho'
   cases ho'
   cases hcc
 exact ⟨h.below.grown hg h.below.size (fun k e => (hr k e).1),h.b3.kept hg (nb h.b3),h.b4.kept hg (nb h.b4),h.b5.kept hg (nb h.b5),h.b6.kept hg (nb h.b6),h.b7.kept hg (nb h.b7),h.rb.other hg (no h.rb),h.ro.other hg (no h.ro),h.ne⟩
/-- A new row for b. -/
theorem Sw.set3 {w W : World} {vb vo vn : Value} {xb ys xn : List S24} (h : Sw w vb vo xb ys W) (hn : OwnRow (Rw w) 24 7 W (w.heap.size + 5) vn xn) (hne : ∀ k,vn.ownBlock = some k → vo.ownBlock ≠ some k) : Sw w vn vo xn ys (W.setCell ⟨w.heap.size,0,none⟩ vn) :=
 ⟨Below.setCell (p:=⟨w.heap.size,0,none⟩) h.below (Nat.le_refl _) _,h.b3.set vn,h.b4.other (by omega) _,h.b5.other (by omega) _,h.b6.other (by omega) _,h.b7.other (by omega) _,hn.set_ h.b3 (by decide) _ _,h.ro.set_ h.b3 (by decide) _ _,hne⟩
/-- The other row, grown. -/
theorem Sw.set7 {w W W' : World} {vb vo vn : Value} {xb ys yn : List S24} (h : Sw w vb vo xb ys W) (hg : W.grownBy W' vo.ownBlock) (hn : OwnRow (Rw w) 24 7 W' (w.heap.size + 5) vn yn) (hat : vn.ownBlock = vo.ownBlock ∨ vn.ownBlock = some W.heap.size) : Sw w vb vn xb yn (W'.setCell ⟨w.heap.size + 1 + 1 + 1 + 1,0,none⟩ vn):=by
 have k3:=h.b3.kept hg (own_ne25 h.ro h.b3 (by decide))
 have k4:=h.b4.kept hg (own_ne25 h.ro h.b4 (by decide))
 have k5:=h.b5.kept hg (own_ne25 h.ro h.b5 (by decide))
 have k6:=h.b6.kept hg (own_ne25 h.ro h.b6 (by decide))
 have k7:=h.b7.kept hg (own_ne25 h.ro h.b7 (by decide))
 have kb : OwnRow (Rw w) 24 7 W' (w.heap.size + 5) vb xb:=h.rb.other hg (by
  rcases hk : vb.ownBlock with _ | k
  ·exact .inl rfl
  ·exact .inr (fun e => h.ne k hk e.symm))
 have hb : Below w.heap.size w W':=h.below.grown hg h.below.size (fun k e => by obtain ⟨_,ho,_⟩:=h.ro; have:=own_base ho k e; omega)
 refine ⟨Below.setCell (p:=⟨w.heap.size + 1 + 1 + 1 + 1,0,none⟩) hb (by show w.heap.size ≤ w.heap.size + 1 + 1 + 1 + 1; omega) _,k3.other (by omega) _,k4.other (by omega) _,k5.other (by omega) _,k6.other (by omega) _,k7.set vn,kb.set_ k7 (by decide) _ _,hn.set_ k7 (by decide) _ _,fun k hk e => ?_⟩
 rcases hat with hat | hat
 ·exact h.ne k hk (by rw [← hat]; exact e)
 ·rw [hat] at e
  obtain ⟨_,ho,_⟩:=h.rb
  have:=own_lt ho k hk
  cases e
  omega
theorem keeps_below {W W' : World} (h : Below W.heap.size W W') : KeepsOthers W W':=⟨h.size,fun k o hk _ => (h.block k (Array.getElem?_eq_some_iff.1 hk).1).trans hk⟩
theorem keeps_grown {w W W' : World} {base : Nat} {v : Value} {xs : List S24} (h : OwnRow (Rw w) 24 7 W base v xs) (hg : W.grownBy W' v.ownBlock) : KeepsOthers W W':=KeepsOthers.of_grownBy hg (fun j o e hj => by
 obtain ⟨inner,ho,_⟩:=h
 obtain ⟨cells,hc⟩:=own_typed ho j e
 rw [hc] at hj
 cases hj
 rfl)
/-- What is told when Swap says no. -/
structure SwNo (w : World) (W : World) : Prop where
 below : Below w.heap.size w W
 b4 : Boxed W (w.heap.size + 1) 25 (.slice none 0 0)
 b5 : Boxed W (w.heap.size + 1 + 1) 25 (.slice none 0 0)
 b6 : Boxed W (w.heap.size + 1 + 1 + 1) 4 (.bool false)
theorem SwNo.own {w X Y : World} (h : SwNo w X) {row : Option Nat} (hg : X.grownBy Y row) (hr : ∀ r,row = some r → w.heap.size ≤ r ∧ ∃ o : Obj,X.heap[r]? = some o ∧ o.isCells = false) : SwNo w Y:=by
 have nb : ∀ {B t : Nat} {u : Value},Boxed X B t u → some B ≠ row:=fun {B t u} hb e => by
  obtain ⟨_,o,ho,hc⟩:=hr B e.symm
  rw [show X.heap[B]? = _ from hb] at ho
  cases ho
  cases hc
 exact ⟨h.below.grown hg h.below.size (fun k e => (hr k e).1),h.b4.kept hg (nb h.b4),h.b5.kept hg (nb h.b5),h.b6.kept hg (nb h.b6)⟩
theorem five5 (w : World) (o1 o2 o3 o4 o5 : Obj) : (((((w.alloc o1).alloc o2).alloc o3).alloc o4).alloc o5).heap[w.heap.size]? = some o1 ∧ (((((w.alloc o1).alloc o2).alloc o3).alloc o4).alloc o5).heap[w.heap.size + 1]? = some o2 ∧ (((((w.alloc o1).alloc o2).alloc o3).alloc o4).alloc o5).heap[w.heap.size + 1 + 1]? = some o3 ∧ (((((w.alloc o1).alloc o2).alloc o3).alloc o4).alloc o5).heap[w.heap.size + 1 + 1 + 1]? = some o4 ∧ (((((w.alloc o1).alloc o2).alloc o3).alloc o4).alloc o5).heap[w.heap.size + 1 + 1 + 1 + 1]? = some o5 ∧ Below w.heap.size w (((((w.alloc o1).alloc o2).alloc o3).alloc o4).alloc o5):=by
 refine ⟨blk_alloc (blk_alloc (blk_alloc (box1 w o1 o2) _) _) _,blk_alloc (blk_alloc (blk_alloc (box2 w o1 o2) _) _) _,?_,?_,?_,?_⟩
 ·have h:=blk_alloc (box1 ((w.alloc o1).alloc o2) o3 o4) o5
  simpa using h
 ·have h:=blk_alloc (box2 ((w.alloc o1).alloc o2) o3 o4) o5
  simpa using h
 ·have h:=blk_new ((((w.alloc o1).alloc o2).alloc o3).alloc o4) o5
  simpa using h
 ·exact (((((Below.refl _ w).alloc (Nat.le_refl _) _).alloc (by simp) _).alloc (by simp; omega) _).alloc (by simp; omega) _).alloc (by simp; omega) _
def swapP (a b : List S24) : List S24 × List S24 × Bool:=match swapS a b with
 | none => ([],[],false)
 | some z => (z.1,z.2,true)
theorem ret38 {tmps : Array Value} {W : World} {g4 g5 g6 : Nat} {v4 v5 v6 : Value} (h4 : tmps[4]? = some (.pointer (some ⟨g4,0,none⟩))) (h5 : tmps[5]? = some (.pointer (some ⟨g5,0,none⟩))) (h6 : tmps[6]? = some (.pointer (some ⟨g6,0,none⟩)))
  (c4 : W.cell? ⟨g4,0,none⟩ = some v4) (c5 : W.cell? ⟨g5,0,none⟩ = some v5) (c6 : W.cell? ⟨g6,0,none⟩ = some v6) : (results Tryd.f38 tmps).run Tryd.prog W = .ok (.tuple #[v4,v5,v6]) W:=by
 simp [results,Tryd.results38,go_sem, *]
def SwapPost (w : World) (a b : List S24) (e : Ending) (w' : World) : Prop :=
 ∃ X cx Y cy,e = .returned (.tuple #[.slice X (swapP a b).1.length cx,.slice Y (swapP a b).2.1.length cy,.bool (swapP a b).2.2]) ∧ Kd.C k24 w' X (swapP a b).1.length (swapP a b).1 ∧ (swapP a b).1.length ≤ cx ∧ Kd.C k24 w' Y (swapP a b).2.1.length (swapP a b).2.1 ∧ (swapP a b).2.1.length ≤ cy ∧ Below w.heap.size w w'
theorem rd_F {w : World} {ok : Nat → Prop} {x : S24} {c : List Value} (h : Kd.FK k24 w ok x c) : ∃ X5 x5 X6 x6,c = [.int .i64 x.f0,.string x.f1,.string x.f2,.string x.f3,.int .i64 x.f4,.slice X5 x.f5.length x5,.slice X6 x.f6.length x6] ∧ Rd w x X5 x5 X6 x6:=by
 obtain ⟨X5,x5,X6,x6,e,l5,g5,l6,g6⟩:=k24_open (Kd.FK_now h)
 exact ⟨X5,x5,X6,x6,e,⟨g5,l5,g6,l6⟩⟩
set_option maxRecDepth 100000 in
set_option maxHeartbeats 8000000 in
theorem swap_in (a b : List S24) (A : Option Addr) (ca : Nat) (B : Option Addr) (cb : Nat) (w : World) (ha : ∀ x ∈ a,Okp x) (hb : ∀ x ∈ b,Okp x) (na : a.length ≤ 1000) (nb : b.length ≤ 1000) (ga : Kd.C k24 w A a.length a) (gb : Kd.C k24 w B b.length b) :
  CallsIn Fence.wide 6 Tryd.prog 38 #[.slice A a.length ca,.slice B b.length cb] w (SwapPost w a b):=by
 obtain ⟨x3,x4,x5,x6,x7,hT⟩:=five5 w (.cells #[.slice B b.length cb] 25) (.cells #[.slice none 0 0] 25) (.cells #[.slice none 0 0] 25) (.cells #[.bool false] 4) (.cells #[.slice none 0 0] 25)
 have rB : Aside0 (ReadsRow (Rw w) 7 (((((w.alloc (.cells #[.slice B b.length cb] 25)).alloc (.cells #[.slice none 0 0] 25)).alloc (.cells #[.slice none 0 0] 25)).alloc (.cells #[.bool false] 4)).alloc (.cells #[.slice none 0 0] 25)) B b.length b):=⟨rows_rw gb hT⟩
 have hTa:=Aside0.mk hT
 have c3:=Boxed.cell (W:=(((((w.alloc (.cells #[.slice B b.length cb] 25)).alloc (.cells #[.slice none 0 0] 25)).alloc (.cells #[.slice none 0 0] 25)).alloc (.cells #[.bool false] 4)).alloc (.cells #[.slice none 0 0] 25))) (B:=w.heap.size) (t:=25) x3
 have FA : Aside0 (Kd.F k24 w (fun k => k < w.heap.size) A a.length a):=⟨Kd.C_F k24_heap ga⟩
 have x3a:=Aside0.mk x3
 have x4a:=Aside0.mk x4
 have x5a:=Aside0.mk x5
 have x6a:=Aside0.mk x6
 have x7a:=Aside0.mk x7
 clear x3 x4 x5 x6 x7 hT ga gb
 refine callsIn_of_wp_marks Tryd.func38 rfl trivial ?_ rfl
 simp only [Tryd.ntmps38,List.size_toArray,List.length_cons,List.length_nil,Nat.reduceAdd,Nat.reduceSub,Array.replicate_succ,Array.replicate_zero,List.push_toArray,List.append_toArray,List.nil_append,List.cons_append]
 gi_wp2_with (first | (refine ⟨trivial,?_⟩; gi_at_call 71; refine (callsIn_wide.2 (clone_row w b B cb (((((w.alloc (.cells #[.slice B b.length cb] 25)).alloc (.cells #[.slice none 0 0] 25)).alloc (.cells #[.slice none 0 0] 25)).alloc (.cells #[.bool false] 4)).alloc (.cells #[.slice none 0 0] 25)) hTa.out (by omega) rB.out)).mono ?_; rintro e w1 ⟨v,rfl,hv,hb1⟩; obtain ⟨Av,cv,rfl,hcv⟩:=hv.slice_; have q3:=blk_below x3a.out hb1; have z3:=Boxed.cell (W:=w1) (B:=w.heap.size) (t:=25) q3; have f3:=Boxed.frozen (W:=w1) (B:=w.heap.size) (t:=25) q3; replace q3:=Aside0.mk q3; replace hb1:=Aside0.mk hb1; replace hv:=Aside0.mk hv; clear c3) | (refine ⟨trivial,?_⟩; gi_at_call 51; refine (back_inZ _ _ _ _ _).mono ?_; rintro e w' ⟨rfl,rfl⟩))
 have hS1 : Sw w (.slice Av b.length cv) (.slice none 0 0) b [] (w1.setCell ⟨w.heap.size,0,none⟩ (.slice Av b.length cv)):=by
  have hv5 : OwnRow (Rw w) 24 7 w1 (w.heap.size + 5) (.slice Av b.length cv) b:=hv.out.lower (by simp)
  exact ⟨Below.setCell (p:=⟨w.heap.size,0,none⟩) (hTa.out.trans (hb1.out.mono hTa.out.size)) (Nat.le_refl _) _,Boxed.set (.slice Av b.length cv) (v:=.slice B b.length cb) q3.out,Boxed.other (B:=w.heap.size + 1) (v:=.slice none 0 0) (blk_below x4a.out hb1.out) (by omega) _,Boxed.other (B:=w.heap.size + 1 + 1) (v:=.slice none 0 0) (blk_below x5a.out hb1.out) (by omega) _,Boxed.other (B:=w.heap.size + 1 + 1 + 1) (v:=.bool false) (blk_below x6a.out hb1.out) (by omega) _,Boxed.other (B:=w.heap.size + 1 + 1 + 1 + 1) (v:=.slice none 0 0) (blk_below x7a.out hb1.out) (by omega) _,hv5.set_ q3.out (by decide) _ _,OwnRow.none_ _ _ _ _ _,fun k hk e => by cases e⟩
 obtain ⟨V,hV⟩ : ∃ V,V = w1.setCell ⟨w.heap.size,0,none⟩ (.slice Av b.length cv):=⟨_,rfl⟩
 rw [← hV] at hS1 ⊢
 have bS:=Boxed.new V 25 (.slice A a.length ca)
 have hS2:=hS1.later (below_alloc (Below.refl _ V) (.cells #[.slice A a.length ca] 25))
 have hsV:=hS1.below.size
 have hlt7:=hS1.b7.lt
 obtain ⟨W0,hW0⟩ : ∃ W0,V.alloc (.cells #[.slice A a.length ca] 25) = W0:=⟨_,rfl⟩
 have hsz : W0.heap.size = V.heap.size + 1:=by rw [← hW0]; simp
 rw [hW0] at bS hS2 ⊢
 obtain ⟨Bs,hBs⟩ : ∃ Bs,Bs = V.heap.size:=⟨_,rfl⟩
 have hsV1 : V.heap.size = w1.heap.size:=by rw [hV]; simp
 (try rw [← hsV1])
 rw [← hBs] at bS hsz hlt7 ⊢
 clear hW0 hS1 hsV1 hV hBs hsV hv hb1 q3 z3 f3 x3a x4a x5a x6a x7a rB
 have hokp:=Aside0.mk hb
 refine wpIn_rangeFunc_ownH (F:=Fence.wide) rfl (by omega) (gf:=83) (lb:=#[.pointer (some ⟨Bs,0,none⟩)]) rfl trivial (enters_of Tryd.func83 (by kernel_rfl) rfl)
  (back_stopsZ 5 (by omega) Bs Okp w W0 (fun k => k < w.heap.size) A ca a (by omega) FA.out ha hS2.below bS.cell) ?kt ?kb (Below.refl _ _) (fun _ => rfl)
  (fun pre W => (∃ vb vo xb ys,Sw w vb vo xb ys W ∧ runS (pre.map (fun y => y.2.1.1)) b = some (xb,ys) ∧ (∀ x ∈ xb,Okp x) ∧ xb.length = b.length ∧ ys.length = pre.length) ∧ Boxed W Bs 25 (.slice A a.length ca))
  (fun c pre W => c = .ret ∧ runS (pre.map (fun y => y.2.1.1)) b = none ∧ SwNo w W)
  ?own ?ownr ⟨⟨.slice Av b.length cv,.slice none 0 0,b,[],hS2,rfl,hb,rfl,rfl⟩,bS⟩
  (fun x a' W => ∃ Bx,Bs < Bx ∧ W.heap[Bx]? = some (.cells x.2.1.2.toArray 24 (0,0)) ∧ a' = { tmps:=#[.slice A a.length ca,.slice B b.length cb,undef,.pointer (some ⟨w.heap.size,0,none⟩),.pointer (some ⟨w.heap.size + 1,0,none⟩),.pointer (some ⟨w.heap.size + 1 + 1,0,none⟩),.pointer (some ⟨w.heap.size + 1 + 1 + 1,0,none⟩),.pointer (some ⟨w.heap.size + 1 + 1 + 1 + 1,0,none⟩),undef,.pointer (some ⟨Bx,0,none⟩),undef,undef,undef,.slice B b.length cb,.slice Av b.length cv,.slice A a.length ca,.func (.func 83) #[] #[.pointer (some ⟨Bs,0,none⟩)],.int .i64 (x.1 : Int),.agg x.2.1.2.toArray,undef,undef,undef,undef,undef,undef,undef,undef,undef,undef,undef,undef,undef,undef,undef,undef,undef,undef],defers:=[] })
  ?ownx ?assign ?body ?done ?stop
 case kt => exact fun h k => ⟨h.1.trans k.1,fun v hv => k.2 v (h.2 v hv)⟩
 case kb => exact fun W l o o' hl h hc hw => ⟨belowK_b (w:=W0) (by have:=hS2.below.size; omega) W l o o' hl h hc hw,fun v hv => cell_kept hv (grownBy_putObj' W l o') (fun r e => by cases e; exact ⟨o,h,hc⟩)⟩
 case own =>
  rintro pre X Y row ⟨⟨vb,vo,xb,ys,hS,hr⟩,hbx⟩ hg hrow
  exact ⟨⟨vb,vo,xb,ys,hS.own hg (fun r e => ⟨by have:=(hrow r e).1; have:=hS2.below.size; omega,(hrow r e).2⟩),hr⟩,boxed_own _ 25 (fun (_ : Unit) => Value.slice A a.length ca) () X Y row hbx hg (fun r e => (hrow r e).2)⟩
 case ownr =>
  rintro c pre X Y row ⟨h1,h2,h3⟩ hg hrow
  exact ⟨h1,h2,h3.own hg (fun r e => ⟨by have:=(hrow r e).1; have:=hS2.below.size; omega,(hrow r e).2⟩)⟩
 case ownx =>
  rintro x a' u X Y row ⟨Bx,h1,h2,h3⟩ hg hrow
  refine ⟨Bx,h1,?_,h3⟩
  refine (hg.block Bx (Array.getElem?_eq_some_iff.1 h2).1 (fun e' => ?_)).trans h2
  obtain ⟨o,ho,hc⟩:=(hrow Bx e'.symm).2
  rw [h2] at ho; cases ho; cases hc
 case assign =>
  rintro l pre ⟨i,⟨⟨x,c⟩,hx,hz⟩⟩ W K ⟨⟨vb,vo,xb,ys,hS,hr⟩,hbx⟩ hK
  obtain ⟨X5,x5,X6,x6,hce,rx⟩:=rd_F hx
  dsimp only at hce
  subst hce
  dsimp only [encZ] at hK ⊢
  gi_wp2
  exact hK _ _ ((KeepsOthers.alloc _ _).from _) ⟨(Below.refl _ W).alloc hS.below.size _,fun v hv => by rw [hbx.cell] at hv; cases hv; exact (hbx.alloc _).cell⟩ ⟨⟨vb,vo,xb,ys,hS.later (below_alloc (Below.refl _ _) _),hr⟩,hbx.alloc _⟩ ⟨W.heap.size,hbx.lt,World.alloc_heap_new W _,rfl⟩
 case body =>
  rintro l pre ⟨i,⟨⟨x,c⟩,hx,hz⟩⟩ a' W hl _ ⟨⟨vb,vo,xb,ys,hS,hrun,hok,hlb,hly⟩,hbx⟩ ⟨Bx,hBx,hbx2,rfl⟩ hlt
  obtain ⟨X5,x5,X6,x6,hce,rx⟩:=rd_F hx
  dsimp only at hce hz
  subst hce
  dsimp only at hbx2 ⊢
  obtain ⟨Ab,cvb,rfl,hcb,rrb⟩:=hS.rb.reads
  obtain ⟨Ao,co,rfl,hco⟩:=hS.ro.slice_
  have hc3:=hS.b3.cell
  obtain ⟨p0,p1,p2,p3,p4,p5,p6⟩:=cells7 hbx2
  obtain ⟨t,ht⟩ : ∃ t,t = past x xb:=⟨_,rfl⟩
  have hcall : Aside0 (Calls Tryd.prog 26 #[.agg #[.int .i64 x.f0,.string x.f1,.string x.f2,.string x.f3,.int .i64 x.f4,.slice X5 x.f5.length x5,.slice X6 x.f6.length x6],.slice Ab xb.length cvb] W (fun e w' => ∃ v C5 e5 C6 e6,e = .returned (.tuple #[v,.agg (cs t.2.1 C5 e5 C6 e6),.bool t.2.2]) ∧ OwnRow (Rw w) 24 7 w' W.heap.size v t.1 ∧ Rd w t.2.1 C5 e5 C6 e6 ∧ Below W.heap.size W w')):=⟨by rw [ht]; exact past_row w x xb X5 x5 X6 x6 Ab cvb W hS.below hz hok (by omega) rx rrb⟩
  have hxb : Aside0 (xb.length ≤ 1000):=⟨by omega⟩
  replace hlb:=Aside0.mk hlb
  replace hly:=Aside0.mk hly
  replace rx:=Aside0.mk rx
  replace rrb:=Aside0.mk rrb
  replace ht:=Aside0.mk ht
  replace hS:=Aside0.mk hS
  replace hrun:=Aside0.mk hrun
  replace hok:=Aside0.mk hok
  have hlta : pre.length < a.length:=hlt
  clear hlt
  replace hx:=Aside0.mk hx
  gi_upto_region 6 with (refine ⟨trivial,?_⟩; gi_at_call 26; refine (CallsIn.inRound l (callsIn_wide.2 hcall.out)).mono ?_; rintro e w1 ⟨v',C5,e5,C6,e6,rfl,hv',hrd,hb1⟩; obtain ⟨Av',cv',rfl,hcv'⟩:=hv'.slice_; replace hv':=Aside0.mk hv'; replace hrd:=Aside0.mk hrd; replace hb1:=Aside0.mk hb1)
  have hal:=below_alloc (Below.refl _ w1) (.cells #[.int .i64 t.2.1.f0,.string t.2.1.f1,.string t.2.1.f2,.string t.2.1.f3,.int .i64 t.2.1.f4,.slice C5 t.2.1.f5.length e5,.slice C6 t.2.1.f6.length e6] 24)
  have hS5:=(hS.out.later hb1.out).later hal
  have hv5:=hv'.out.below hal
  have hk5:=(keeps_below hb1.out).trans (KeepsOthers.alloc w1 (.cells #[.int .i64 t.2.1.f0,.string t.2.1.f1,.string t.2.1.f2,.string t.2.1.f3,.int .i64 t.2.1.f4,.slice C5 t.2.1.f5.length e5,.slice C6 t.2.1.f6.length e6] 24))
  have hbx5 : Boxed _ Bs 25 (.slice A a.length ca):=blk_below (blk_below hbx hb1.out) hal
  have hb5:=hb1.out.alloc hb1.out.size (.cells #[.int .i64 t.2.1.f0,.string t.2.1.f1,.string t.2.1.f2,.string t.2.1.f3,.int .i64 t.2.1.f4,.slice C5 t.2.1.f5.length e5,.slice C6 t.2.1.f6.length e6] 24)
  have xg:=blk_new w1 (.cells #[.int .i64 t.2.1.f0,.string t.2.1.f1,.string t.2.1.f2,.string t.2.1.f3,.int .i64 t.2.1.f4,.slice C5 t.2.1.f5.length e5,.slice C6 t.2.1.f6.length e6] 24)
  have hge : W.heap.size ≤ w1.heap.size:=hb1.out.size
  clear hal
  generalize (w1.alloc (.cells #[.int .i64 t.2.1.f0,.string t.2.1.f1,.string t.2.1.f2,.string t.2.1.f3,.int .i64 t.2.1.f4,.slice C5 t.2.1.f5.length e5,.slice C6 t.2.1.f6.length e6] 24)) = Wz at hS5 hv5 hk5 hbx5 hb5 xg ⊢
  generalize w1.heap.size = g at xg hge ⊢
  clear hb1 hv' hcall hc3 p0 p1 p2 p3 p4 p5 p6
  cases hps : pastS x xb with
  | none =>
   have e1 : t = ([],z24,false):=by rw [ht.out,past_no hps]
   have hrn : Aside0 (runS ((pre ++ [(i,(⟨(x,[.int .i64 x.f0,.string x.f1,.string x.f2,.string x.f3,.int .i64 x.f4,.slice X5 x.f5.length x5,.slice X6 x.f6.length x6]),hx.out,hz⟩ : ElZ Okp w (fun k => k < w.heap.size)))]).map (fun y => y.2.1.1)) b = none):=⟨by rw [List.map_append,List.map_singleton,runS_snoc,hrun.out,Option.bind_some]; dsimp only; rw [hps]; rfl⟩
   have e22 : t.2.2 = false:=by rw [e1]
   rw [e22]
   have hn : SwNo w (((Wz.setCell ⟨w.heap.size + 1,0,none⟩ (.slice none 0 0)).setCell ⟨w.heap.size + 1 + 1,0,none⟩ (.slice none 0 0)).setCell ⟨w.heap.size + 1 + 1 + 1,0,none⟩ (.bool false)) :=
    ⟨Below.setCell (p:=⟨w.heap.size + 1 + 1 + 1,0,none⟩) (Below.setCell (p:=⟨w.heap.size + 1 + 1,0,none⟩) (Below.setCell (p:=⟨w.heap.size + 1,0,none⟩) hS5.below (by show w.heap.size ≤ w.heap.size + 1; omega) _) (by show w.heap.size ≤ w.heap.size + 1 + 1; omega) _) (by show w.heap.size ≤ w.heap.size + 1 + 1 + 1; omega) _,((hS5.b4.set _).other (by omega) _).other (by omega) _,((hS5.b5.other (by omega) _).set _).other (by omega) _,((hS5.b6.other (by omega) _).other (by omega) _).set _⟩
   replace hn:=Aside0.mk hn
   have c4:=hS5.b4.cell
   have f4:=hS5.b4.frozen
   have c5:=hS5.b5.cell
   have f5:=hS5.b5.frozen
   have c6:=hS5.b6.cell
   have f6:=hS5.b6.frozen
   replace hk5:=Aside0.mk hk5
   clear hS5 hv5 hbx5 xg e1 e22
   gi_wp2
   exact ⟨(hk5.out.trans ((KeepsOthers.setCell _ _ _).trans ((KeepsOthers.setCell _ _ _).trans (KeepsOthers.setCell _ _ _)))).from _,rfl,hrn.out,hn.out⟩
  | some yr =>
   obtain ⟨xn,r⟩:=yr
   have e1 : t = (xn,r,true):=by rw [ht.out,past_yes hps]
   obtain ⟨or,oxn,hlx⟩:=okp_pasts xb x hz hok.out xn r hps
   replace hlx:=Aside0.mk hlx
   have hrn : Aside0 (runS ((pre ++ [(i,(⟨(x,[.int .i64 x.f0,.string x.f1,.string x.f2,.string x.f3,.int .i64 x.f4,.slice X5 x.f5.length x5,.slice X6 x.f6.length x6]),hx.out,hz⟩ : ElZ Okp w (fun k => k < w.heap.size)))]).map (fun y => y.2.1.1)) b = some (xn,ys ++ [r])):=⟨by rw [List.map_append,List.map_singleton,runS_snoc,hrun.out,Option.bind_some]; dsimp only; rw [hps]; rfl⟩
   subst e1
   dsimp only at hv5 xg hrd ⊢
   have hvn : OwnRow (Rw w) 24 7 Wz (w.heap.size + 5) (.slice Av' xn.length cv') xn:=hv5.lower (by have:=hS.out.b7.lt; omega)
   have hnb : ∀ k,(Value.slice Av' xn.length cv').ownBlock = some k → (Value.slice Ao ys.length co).ownBlock ≠ some k:=fun k hk e => by (obtain ⟨_,ho,_⟩:=hv5; have h1:=own_base ho k hk; obtain ⟨_,ho2,_⟩:=hS.out.ro; have h2:=own_lt ho2 k e; omega)
   have hS6:=hS5.set3 hvn hnb
   have xg6 : (Wz.setCell ⟨w.heap.size,0,none⟩ (.slice Av' xn.length cv')).heap[g]? = _:=(Below.heap_setCell Wz ⟨w.heap.size,0,none⟩ _ g (by have:=hS.out.b7.lt; show g ≠ w.heap.size; omega)).trans xg
   have hbx6:=hbx5.other (B':=w.heap.size) (by omega) (.slice Av' xn.length cv')
   have hk6:=Aside0.mk (hk5.trans (KeepsOthers.setCell Wz ⟨w.heap.size,0,none⟩ (.slice Av' xn.length cv')))
   have hb6 : Below w.heap.size W (Wz.setCell ⟨w.heap.size,0,none⟩ (.slice Av' xn.length cv')):=Below.setCell (p:=⟨w.heap.size,0,none⟩) (hb5.mono hS.out.below.size) (Nat.le_refl _) _
   have c3:=hS5.b3.cell
   have f3:=hS5.b3.frozen
   have c7:=hS6.b7.cell
   obtain ⟨p0,p1,p2,p3,p4,p5,p6⟩:=cells7 xg6
   obtain ⟨i0,hi,hz0,hz1,hz2⟩:=info_parts infoR
   replace hi:=Aside0.mk hi
   replace hz0:=Aside0.mk hz0
   replace hz1:=Aside0.mk hz1
   replace hz2:=Aside0.mk hz2
   obtain ⟨inner,ho,hr⟩:=(hS6.ro)
   have ho1:=Aside0.mk (pw_own_below ho (below_alloc (Below.refl _ _) (.cells #[.int .i64 r.f0,.string r.f1,.string r.f2,.string r.f3,.int .i64 r.f4,.slice C5 r.f5.length e5,.slice C6 r.f6.length e6] 24)))
   replace hr:=Aside0.mk hr
   have hsz6:=hS6.b7.lt
   have hyl : Aside0 (ys.length + 1 ≤ 1000):=⟨by have:=hly.out; omega⟩
   replace hS6:=Aside0.mk hS6
   replace hb6:=Aside0.mk hb6
   generalize hWy : (Wz.setCell ⟨w.heap.size,0,none⟩ (.slice Av' xn.length cv')) = Wy at hS6 xg6 hbx6 hk6 hb6 c7 ho ho1 hsz6 p0 p1 p2 p3 p4 p5 p6
   gi_upto_region 9 with (fail)
   (try rw [hWy])
   clear hWy
   gi_wp2_with (gi_at_builtin; refine wpListIn_append_own_at _ rfl (.tmp 29) (.tmp 31) 25 rfl (w.heap.size + 5) 24 i0 _ 7 112 Tryd.underlying25 hi.out hz0.out hz1.out hz2.out rfl (by decide) (.slice Ao ys.length co) ys.length inner rfl ho1.out ⟨Wy.heap.size,0,none⟩ 1 1 [.int .i64 r.f0,.string r.f1,.string r.f2,.string r.f3,.int .i64 r.f4,.slice C5 r.f5.length e5,.slice C6 r.f6.length e6] rfl rfl (World.news_of_block (cs:=#[.int .i64 r.f0,.string r.f1,.string r.f2,.string r.f3,.int .i64 r.f4,.slice C5 r.f5.length e5,.slice C6 r.f6.length e6]) (t:=24) (fr:=(0,0)) (heap_alloc_new Wy _)) (rw_one (w:=w)) ?m1 ?m2 ?m3 ?_; (case m1 => simp only [maxLen]; have:=hyl.out; omega); (case m2 => have:=hyl.out; omega); (case m3 => have:=hsz6; simp; omega); intro v2 w2 hown2 hg2 _ hat2; obtain ⟨g2,cap2,rfl⟩:=ownsRow_succ hown2; have b7:=Boxed.kept ((hS6.out.b7).alloc (.cells #[.int .i64 r.f0,.string r.f1,.string r.f2,.string r.f3,.int .i64 r.f4,.slice C5 r.f5.length e5,.slice C6 r.f6.length e6] 24)) hg2 (own_ne25 (hS6.out.ro.below (below_alloc (Below.refl _ _) (.cells #[.int .i64 r.f0,.string r.f1,.string r.f2,.string r.f3,.int .i64 r.f4,.slice C5 r.f5.length e5,.slice C6 r.f6.length e6] 24))) (hS6.out.b7.alloc _) (by decide)); have c8:=b7.cell; have f8:=b7.frozen; replace hown2:=Aside0.mk hown2; replace hg2:=Aside0.mk hg2; replace hat2:=Aside0.mk hat2)
   have hS7:=(hS6.out.later (below_alloc (Below.refl _ _) (.cells #[.int .i64 r.f0,.string r.f1,.string r.f2,.string r.f3,.int .i64 r.f4,.slice C5 r.f5.length e5,.slice C6 r.f6.length e6] 24)))
   have hn7 : OwnRow (Rw w) 24 7 w2 (w.heap.size + 5) (.slice (some ⟨g2,0,none⟩) (ys.length + 1) cap2) (ys ++ [r]):=⟨inner ++ [.int .i64 r.f0,.string r.f1,.string r.f2,.string r.f3,.int .i64 r.f4,.slice C5 r.f5.length e5,.slice C6 r.f6.length e6],by rw [List.length_append,List.length_singleton]; exact hown2.out,hr.out.snoc ⟨_,_,_,_,rfl,hrd.out⟩ rfl⟩
   have hfin:=hS7.set7 hg2.out hn7 hat2.out
   have hbx7 : Boxed w2 Bs 25 (.slice A a.length ca):=(hbx6.alloc _).kept hg2.out (own_ne25 hS7.ro (hbx6.alloc _) (by decide))
   have hbxF:=hbx7.other (B':=w.heap.size + 1 + 1 + 1 + 1) (by omega) (.slice (some ⟨g2,0,none⟩) (ys.length + 1) cap2)
   have hkF:=(hk6.out.trans (KeepsOthers.alloc Wy (.cells #[.int .i64 r.f0,.string r.f1,.string r.f2,.string r.f3,.int .i64 r.f4,.slice C5 r.f5.length e5,.slice C6 r.f6.length e6] 24))).trans ((keeps_grown hS7.ro hg2.out).trans (KeepsOthers.setCell w2 ⟨w.heap.size + 1 + 1 + 1 + 1,0,none⟩ (.slice (some ⟨g2,0,none⟩) (ys.length + 1) cap2)))
   have hbF : Below w.heap.size W (w2.setCell ⟨w.heap.size + 1 + 1 + 1 + 1,0,none⟩ (.slice (some ⟨g2,0,none⟩) (ys.length + 1) cap2)):=Below.setCell (p:=⟨w.heap.size + 1 + 1 + 1 + 1,0,none⟩) ((hb6.out.alloc hS6.out.below.size (.cells #[.int .i64 r.f0,.string r.f1,.string r.f2,.string r.f3,.int .i64 r.f4,.slice C5 r.f5.length e5,.slice C6 r.f6.length e6] 24)).grown hg2.out (by have:=hS6.out.below.size; simp; omega) (fun k e => by obtain ⟨_,ho3,_⟩:=hS7.ro; have:=own_base ho3 k e; omega)) (by show w.heap.size ≤ w.heap.size + 1 + 1 + 1 + 1; omega) _
   exact ⟨hkF.from _,⟨hbF,fun v hv => by rw [hbx.cell] at hv; cases hv; exact hbxF.cell⟩,⟨_,_,_,_,hfin,hrn.out,oxn,by rw [hlx.out]; exact hlb.out,by rw [List.length_append,List.length_append,hly.out]; rfl⟩,hbxF⟩
 case done =>
  rintro D pre W hD hpre ⟨⟨vb,vo,xb,ys,hS,hrun,hok,hlb,hly⟩,hbx⟩ hK
  have hsw : Aside0 (swapP a b = (xb,ys.reverse,true)):=⟨by unfold swapP; rw [swap_run,← hpre,hrun]; rfl⟩
  obtain ⟨Ab,cvb,rfl,hcb⟩:=hS.rb.slice_
  obtain ⟨Ao,co,rfl,hco⟩:=hS.ro.slice_
  have c7:=hS.b7.cell
  have hrv:=Aside0.mk (reverse_at w ys W _ _ hS.ro)
  replace hlb:=Aside0.mk hlb
  replace hly:=Aside0.mk hly
  replace hrun:=Aside0.mk hrun
  replace hK:=Aside0.mk hK
  replace hS:=Aside0.mk hS
  clear hbx
  gi_wp2_with (refine ⟨trivial,?_⟩; gi_at_call 72; refine (callsIn_wide.2 hrv.out).mono ?_; rintro e w2 ⟨rfl,hrev,hg⟩; replace hrev:=Aside0.mk hrev; replace hg:=Aside0.mk hg)
  have e4:=hS.out.b4.kept hg.out (own_ne25 hS.out.ro hS.out.b4 (by decide))
  have e5:=hS.out.b5.kept hg.out (own_ne25 hS.out.ro hS.out.b5 (by decide))
  have e6:=hS.out.b6.kept hg.out (own_ne25 hS.out.ro hS.out.b6 (by decide))
  have e3:=hS.out.b3.kept hg.out (own_ne25 hS.out.ro hS.out.b3 (by decide))
  have e7:=hS.out.b7.kept hg.out (own_ne25 hS.out.ro hS.out.b7 (by decide))
  have hD2 : Aside0 (w2.heap[D]? = some (.deferred (some []))):=⟨(hg.out.block D (Array.getElem?_eq_some_iff.1 hK.out).1 (fun e => by obtain ⟨inner,ho,_⟩:=hS.out.ro; obtain ⟨cells,hc⟩:=own_typed ho D e.symm; rw [hK.out] at hc; cases hc)).trans hK.out⟩
  have kb : Aside0 (OwnRow (Rw w) 24 7 w2 (w.heap.size + 5) (.slice Ab xb.length cvb) xb):=⟨hS.out.rb.other hg.out (Classical.or_iff_not_imp_left.2 (fun hn e => by obtain ⟨k,hk⟩:=Option.ne_none_iff_exists'.1 hn; exact hS.out.ne k hk (by rw [← e]; exact hk)))⟩
  have hbel : Aside0 (Below w.heap.size w w2):=⟨hS.out.below.grown hg.out hS.out.below.size (fun k e => by obtain ⟨_,ho,_⟩:=hS.out.ro; have:=own_base ho k e; omega)⟩
  have c3:=e3.cell
  have c7':=e7.cell
  have c4:=e4.cell
  have f4:=e4.frozen
  have c5:=e5.cell
  have f5:=e5.frozen
  have c6:=e6.cell
  have f6:=e6.frozen
  clear c7 hrv
  gi_region
  gi_wp2
  have q4 : ∀ k,k < 5 → D ≠ w.heap.size + k:=fun k hk => by have:=hS2.b7.lt; omega
  obtain ⟨w3,hw3⟩ : ∃ U,U = (((w2.setCell ⟨w.heap.size + 1,0,none⟩ (.slice Ab xb.length cvb)).setCell ⟨w.heap.size + 1 + 1,0,none⟩ (.slice Ao ys.length co)).setCell ⟨w.heap.size + 1 + 1 + 1,0,none⟩ (.bool true)).drew:=⟨_,rfl⟩
  rw [← hw3]
  have hKF : w3.heap[D]? = some (.deferred (some [])):=by rw [hw3]; exact (((Below.heap_setCell _ ⟨w.heap.size + 1 + 1 + 1,0,none⟩ _ D (q4 3 (by omega))).trans (Below.heap_setCell _ ⟨w.heap.size + 1 + 1,0,none⟩ _ D (q4 2 (by omega)))).trans (Below.heap_setCell _ ⟨w.heap.size + 1,0,none⟩ _ D (q4 1 (by omega)))).trans hD2.out
  have g4 : Boxed w3 (w.heap.size + 1) 25 (.slice Ab xb.length cvb):=by rw [hw3]; exact ((e4.set (.slice Ab xb.length cvb)).other (by omega) _).other (by omega) _
  have g5 : Boxed w3 (w.heap.size + 1 + 1) 25 (.slice Ao ys.length co):=by rw [hw3]; exact ((e5.other (by omega) _).set (.slice Ao ys.length co)).other (by omega) _
  have g6 : Boxed w3 (w.heap.size + 1 + 1 + 1) 4 (.bool true):=by rw [hw3]; exact ((e6.other (by omega) _).other (by omega) _).set (.bool true)
  have row3 : ∀ {v : Value} {xs : List S24},OwnRow (Rw w) 24 7 w2 (w.heap.size + 5) v xs → OwnRow (Rw w) 24 7 w3 (w.heap.size + 5) v xs:=fun h => by rw [hw3]; exact own_drew (((h.set_ e4 (by decide) _ _).set_ (e5.other (by omega) _) (by decide) _ _).set_ ((e6.other (by omega) _).other (by omega) _) (by decide) _ _)
  have bel3 : Below w.heap.size w w3:=by rw [hw3]; exact below_drew (Below.setCell (p:=⟨w.heap.size + 1 + 1 + 1,0,none⟩) (Below.setCell (p:=⟨w.heap.size + 1 + 1,0,none⟩) (Below.setCell (p:=⟨w.heap.size + 1,0,none⟩) hbel.out (by show w.heap.size ≤ w.heap.size + 1; omega) _) (by show w.heap.size ≤ w.heap.size + 1 + 1; omega) _) (by show w.heap.size ≤ w.heap.size + 1 + 1 + 1; omega) _)
  have nD : ∀ {v : Value} {xs : List S24},OwnRow (Rw w) 24 7 w3 (w.heap.size + 5) v xs → v.ownBlock = none ∨ v.ownBlock ≠ some D:=fun {v xs} h => Classical.or_iff_not_imp_left.2 (fun _ e => by obtain ⟨_,ho,_⟩:=h; obtain ⟨cells,hc⟩:=own_typed ho D e; rw [hKF] at hc; cases hc)
  have gp:=grownBy_putObj' w3 D (.deferred none)
  have rX:=(row3 kb.out).other gp (nD (row3 kb.out))
  have rY:=(row3 hrev.out).other gp (nD (row3 hrev.out))
  have belF : Below w.heap.size w (w3.putObj D (.deferred none)):=bel3.grown gp bel3.size (fun k e => by cases e; have:=hS2.b7.lt; omega)
  obtain ⟨A1,c1,he1,hl1,hr1⟩:=rX.reads
  injection he1 with h1 h2 h3
  subst h1 h3
  obtain ⟨A2,c2,he2,hl2,hr2⟩:=rY.reads
  injection he2 with h1 h2 h3
  subst h1 h3
  refine ⟨by simp,.inl ⟨_,_,rfl,run_takeDeferred hKF,?_⟩⟩
  refine ⟨_,ret38 (g4:=w.heap.size + 1) (g5:=w.heap.size + 1 + 1) (g6:=w.heap.size + 1 + 1 + 1) rfl rfl rfl (Boxed.cell (g4.kept gp (fun e => by cases e; have:=hS2.b7.lt; omega))) (Boxed.cell (g5.kept gp (fun e => by cases e; have:=hS2.b7.lt; omega))) (Boxed.cell (g6.kept gp (fun e => by cases e; have:=hS2.b7.lt; omega))),?_⟩
  unfold SwapPost
  rw [hsw.out]
  exact ⟨_,_,_,_,by simp only [List.length_reverse],rr_C hr1 belF,hl1,rr_C hr2 belF,hl2,belF⟩
 case stop =>
  rintro D c pre W hD hpre ⟨rfl,hno,hN⟩ hK
  have hsw : swapP a b = ([],[],false):=by
   obtain ⟨rest,hre⟩:=hpre
   unfold swapP
   rw [swap_run,← hre,runS_none hno]
   rfl
  replace hN:=Aside0.mk hN
  replace hsw:=Aside0.mk hsw
  gi_wp2
  have gp:=grownBy_putObj' W D (.deferred none)
  have belF : Below w.heap.size w (W.putObj D (.deferred none)):=hN.out.below.grown gp hN.out.below.size (fun k e => by cases e; have:=hS2.b7.lt; omega)
  refine ⟨by simp,.inl ⟨_,_,rfl,run_takeDeferred hK,?_⟩⟩
  refine ⟨_,ret38 (g4:=w.heap.size + 1) (g5:=w.heap.size + 1 + 1) (g6:=w.heap.size + 1 + 1 + 1) rfl rfl rfl (Boxed.cell (hN.out.b4.kept gp (fun e => by cases e; have:=hS2.b7.lt; omega))) (Boxed.cell (hN.out.b5.kept gp (fun e => by cases e; have:=hS2.b7.lt; omega))) (Boxed.cell (hN.out.b6.kept gp (fun e => by cases e; have:=hS2.b7.lt; omega))),?_⟩
  unfold SwapPost
  rw [hsw.out]
  exact ⟨none,0,none,0,rfl,Kd.C_nil _ _,Nat.le_refl _,Kd.C_nil _ _,Nat.le_refl _,belF⟩
end Go.Proofs.YthhohbidjhcjeaaDoor.H
namespace Go.Proofs.YthhohbidjhcjeaaDoor.H
open Go.RowKit Go.Proofs.YthhohbidjhcjeaaDoorW.PrintWords Go.Proofs.YthhohbidjhcjeaaDoorW.PrintLast Go.Proofs.YthhohbidjhcjeaaDoorW.PrintMore
open Go.Proofs.YthhohbidjhcjeaaDoor.Q Go.Proofs.YthhohbidjhcjeaaDoor.Pl
set_option linter.unusedVariables false
set_option linter.unusedSimpArgs false
/-- The row b: as it came in, or one of one's own, apart from another one. -/
def RowB (w : World) (B : Option Addr) (cb : Nat) (b : List S24) (W : World) (vb vo : Value) (xb : List S24) : Prop :=
 (vb = .slice B b.length cb ∧ xb = b) ∨ (OwnRow (Rw w) 24 7 W w.heap.size vb xb ∧ ∀ k,vb.ownBlock = some k → vo.ownBlock ≠ some k)
theorem RowB.read {w W : World} {B : Option Addr} {cb : Nat} {b : List S24} {vb vo : Value} {xb : List S24} (h : RowB w B cb b W vb vo xb) (gb : Kd.C k24 w B b.length b) (hcb : b.length ≤ cb) (hB : Below w.heap.size w W) :
  ∃ A c,vb = .slice A xb.length c ∧ xb.length ≤ c ∧ ReadsRow (Rw w) 7 W A xb.length xb:=by
 rcases h with ⟨rfl,rfl⟩ | ⟨h,_⟩
 ·exact ⟨_,_,rfl,hcb,rows_rw gb hB⟩
 ·exact h.reads
theorem RowB.grown {w W W' : World} {B : Option Addr} {cb : Nat} {b : List S24} {vb vo vn : Value} {xb : List S24} (h : RowB w B cb b W vb vo xb) (hg : W.grownBy W' vo.ownBlock) (hat : vn.ownBlock = vo.ownBlock ∨ ∃ q,vn.ownBlock = some q ∧ W.heap.size ≤ q) : RowB w B cb b W' vb vn xb:=by
 rcases h with h | ⟨h,hn⟩
 ·exact .inl h
 ·refine .inr ⟨h.other hg (Classical.or_iff_not_imp_left.2 (fun hne e => by obtain ⟨k,hk⟩:=Option.ne_none_iff_exists'.1 hne; exact hn k hk (by rw [← e]; exact hk))),fun k hk e => ?_⟩
  rcases hat with hat | ⟨q,hat,hq⟩
  ·exact hn k hk (by rw [← hat]; exact e)
  ·rw [hat] at e
   cases e
   obtain ⟨_,ho,_⟩:=h
   have:=own_lt ho k hk
   omega
end Go.Proofs.YthhohbidjhcjeaaDoor.H
namespace Go.Proofs.YthhohbidjhcjeaaDoor.H
open Go.RowKit Go.Proofs.YthhohbidjhcjeaaDoorW.PrintWords Go.Proofs.YthhohbidjhcjeaaDoorW.PrintLast Go.Proofs.YthhohbidjhcjeaaDoorW.PrintMore
open Go.Proofs.YthhohbidjhcjeaaDoor.Q Go.Proofs.YthhohbidjhcjeaaDoor.Pl
set_option linter.unusedVariables false
set_option linter.unusedSimpArgs false
abbrev Pa : S24:=⟨1,⟨#[97]⟩,⟨#[]⟩,⟨#[]⟩,0,[],[]⟩
abbrev Pb : S24:=⟨1,⟨#[98]⟩,⟨#[]⟩,⟨#[]⟩,0,[],[]⟩
abbrev Rb : S24:=⟨2,⟨#[98]⟩,⟨#[]⟩,⟨#[]⟩,0,[],[]⟩
abbrev Ra : S24:=⟨2,⟨#[97]⟩,⟨#[]⟩,⟨#[]⟩,0,[],[]⟩
def cellsN (x : S24) : List Value:=[.int .i64 x.f0,.string x.f1,.string x.f2,.string x.f3,.int .i64 x.f4,.slice none 0 0,.slice none 0 0]
theorem rw_nil (w : World) (x : S24) (h5 : x.f5 = []) (h6 : x.f6 = []) : Rw w x (cellsN x):=⟨none,0,none,0,by rw [h5,h6]; rfl,rd_none w x h5 h6⟩
theorem reps_nil (w : World) : ∀ xs : List S24,(∀ x ∈ xs,x.f5 = [] ∧ x.f6 = []) → Reps (Rw w) 7 xs (xs.flatMap cellsN)
 | [],_ => Reps.none _ _
 | x :: xs,h => by
  have h1:=h x (List.mem_cons_self ..)
  have hx : Reps (Rw w) 7 [x] (cellsN x):=by
   have:=(Reps.none (Rw w) 7).snoc (rw_nil w x h1.1 h1.2) rfl
   simpa using this
  exact reps_app hx (reps_nil w xs (fun y hy => h y (List.mem_cons_of_mem _ hy)))
theorem lit_nil (w : World) (xs : List S24) (h : ∀ x ∈ xs,x.f5 = [] ∧ x.f6 = []) (hn : xs.length ≤ 1000) : Kd.C k24 (w.alloc (.cells (xs.flatMap cellsN).toArray 24)) (some ⟨w.heap.size,0,none⟩) xs.length xs:=by
 have ho:=OwnRow.lit (e:=24) w w.heap.size (reps_nil w xs h) (Nat.le_refl _) (by omega)
 obtain ⟨A,c,he,_,hr⟩:=ho.reads
 injection he with h1 h2 h3
 subst h1
 exact rr_C hr (below_alloc (Below.refl _ _) _)
theorem ok_a : Okp Pa:=⟨⟨by decide,by decide⟩,by decide,by decide,by decide⟩
theorem ok_b : Okp Pb:=⟨⟨by decide,by decide⟩,by decide,by decide,by decide⟩
theorem ok_ra : Okp Ra:=⟨⟨by decide,by decide⟩,by decide,by decide,by decide⟩
theorem ok_rb : Okp Rb:=⟨⟨by decide,by decide⟩,by decide,by decide,by decide⟩
theorem yes_ab : Yes Pa Pb Pb Pa:=⟨by decide +kernel,by decide +kernel,by decide +kernel,by decide +kernel,by kernel_rfl⟩
theorem past_ab : pastS Pa [Pb] = some ([Pb],Pa):=by rw [pastS,comm_of yes_ab,if_pos rfl,pastS]; rfl
theorem swap_ab : swapP [Pa] [Pb] = ([Pb],[Pa],true):=by
 unfold swapP
 rw [swapS,swapS,Option.bind_some,past_ab]
 rfl
theorem last_ab : lastP [Pa,Pb] 0 = ([Pb,Pa],true):=by
 rw [show (0 : Int) = ((0 : Nat) : Int) from rfl,lastP_in (by decide),lastS_yes (by decide) past_ab]
 rfl
theorem last_nil : lastP [] 0 = ([],false):=lastP_out (.inr (by decide))
theorem coal_a : coalS [Pa] = [Pa]:=rfl
theorem coal_4 : coalS [Pa,Pb,Rb,Ra] = []:=by kernel_rfl
set_option maxHeartbeats 4000000 in
set_option maxRecDepth 100000 in
theorem head11_calls (w : World) : Calls Tryd.prog 37 #[] w fun e w' => e = .returned (.bool true) ∧ Below w.heap.size w w':=by
 have hT : Below w.heap.size w ((w.alloc (.cells #[.int .i64 1,.string ⟨#[97]⟩,.string ⟨#[]⟩,.string ⟨#[]⟩,.int .i64 0,.slice none 0 0,.slice none 0 0] 24)).alloc (.cells #[.int .i64 1,.string ⟨#[98]⟩,.string ⟨#[]⟩,.string ⟨#[]⟩,.int .i64 0,.slice none 0 0,.slice none 0 0] 24)):=((Below.refl _ _).alloc (Nat.le_refl _) _).alloc (by simp) _
 have xa:=box1 w (.cells #[.int .i64 1,.string ⟨#[97]⟩,.string ⟨#[]⟩,.string ⟨#[]⟩,.int .i64 0,.slice none 0 0,.slice none 0 0] 24) (.cells #[.int .i64 1,.string ⟨#[98]⟩,.string ⟨#[]⟩,.string ⟨#[]⟩,.int .i64 0,.slice none 0 0,.slice none 0 0] 24)
 have xb:=box2 w (.cells #[.int .i64 1,.string ⟨#[97]⟩,.string ⟨#[]⟩,.string ⟨#[]⟩,.int .i64 0,.slice none 0 0,.slice none 0 0] 24) (.cells #[.int .i64 1,.string ⟨#[98]⟩,.string ⟨#[]⟩,.string ⟨#[]⟩,.int .i64 0,.slice none 0 0,.slice none 0 0] 24)
 have gl:=lit_nil ((w.alloc (.cells #[.int .i64 1,.string ⟨#[97]⟩,.string ⟨#[]⟩,.string ⟨#[]⟩,.int .i64 0,.slice none 0 0,.slice none 0 0] 24)).alloc (.cells #[.int .i64 1,.string ⟨#[98]⟩,.string ⟨#[]⟩,.string ⟨#[]⟩,.int .i64 0,.slice none 0 0,.slice none 0 0] 24)) [Pa,Pb,Rb,Ra] (by intro x hx; simp only [List.mem_cons,List.not_mem_nil,or_false] at hx; rcases hx with rfl | rfl | rfl | rfl <;> exact ⟨rfl,rfl⟩) (by decide)
 simp only [World.size_alloc] at gl
 replace hT:=Aside0.mk hT
 replace xa:=Aside0.mk xa
 replace xb:=Aside0.mk xb
 replace gl:=Aside0.mk gl
 go_enter Tryd.func37,Tryd.ntmps37
 go_wp2_with (fail)
 refine (coal_at [Pa,Pb,Rb,Ra] (some ⟨w.heap.size + 1 + 1,0,none⟩) 4 _ (by intro x hx; simp only [List.mem_cons,List.not_mem_nil,or_false] at hx; rcases hx with rfl | rfl | rfl | rfl <;> first | exact ok_a | exact ok_b | exact ok_rb | exact ok_ra) (by decide) gl.out (by decide)).mono ?_
 rintro e w1 ⟨v,rfl,hv,hb1⟩
 rw [coal_4] at hv
 obtain ⟨Av,cv,rfl,_⟩:=hv.slice
 have hs1 : Below ((w.alloc (.cells #[.int .i64 1,.string ⟨#[97]⟩,.string ⟨#[]⟩,.string ⟨#[]⟩,.int .i64 0,.slice none 0 0,.slice none 0 0] 24)).alloc (.cells #[.int .i64 1,.string ⟨#[98]⟩,.string ⟨#[]⟩,.string ⟨#[]⟩,.int .i64 0,.slice none 0 0,.slice none 0 0] 24)).heap.size ((w.alloc (.cells #[.int .i64 1,.string ⟨#[97]⟩,.string ⟨#[]⟩,.string ⟨#[]⟩,.int .i64 0,.slice none 0 0,.slice none 0 0] 24)).alloc (.cells #[.int .i64 1,.string ⟨#[98]⟩,.string ⟨#[]⟩,.string ⟨#[]⟩,.int .i64 0,.slice none 0 0,.slice none 0 0] 24)) w1:=two_steps (below_alloc (Below.refl _ _) _) hb1
 have hw1 : Below w.heap.size w w1:=hT.out.trans (hs1.mono hT.out.size)
 replace xa:=blk_below xa.out hs1
 replace xb:=blk_below xb.out hs1
 clear gl hT hv hb1 hs1
 obtain ⟨a0,a1,a2,a3,a4,a5,a6⟩:=cells7 xa
 obtain ⟨b0,b1,b2,b3,b4,b5,b6⟩:=cells7 xb
 obtain ⟨d0,d1,d2,d3,d4,d5,d6⟩:=deep1 xb
 go_wp2_with (fail)
 have ga:=Kd.C_below (lit_nil w1 [Pa] (by intro x hx; rw [List.mem_singleton.1 hx]; exact ⟨rfl,rfl⟩) (by decide)) (below_alloc (Below.refl _ _) (.cells #[.int .i64 1,.string ⟨#[98]⟩,.string ⟨#[]⟩,.string ⟨#[]⟩,.int .i64 0,.slice none 0 0,.slice none 0 0] 24))
 have gb:=lit_nil (w1.alloc (.cells #[.int .i64 1,.string ⟨#[97]⟩,.string ⟨#[]⟩,.string ⟨#[]⟩,.int .i64 0,.slice none 0 0,.slice none 0 0] 24)) [Pb] (by intro x hx; rw [List.mem_singleton.1 hx]; exact ⟨rfl,rfl⟩) (by decide)
 simp only [World.size_alloc] at gb
 refine (callsIn_wide.1 (swap_in [Pa] [Pb] (some ⟨w1.heap.size,0,none⟩) 1 (some ⟨w1.heap.size + 1,0,none⟩) 1 _ (by intro x hx; rw [List.mem_singleton.1 hx]; exact ok_a) (by intro x hx; rw [List.mem_singleton.1 hx]; exact ok_b) (by decide) (by decide) ga gb)).mono ?_
 intro e w2 h2
 unfold SwapPost at h2
 rw [swap_ab] at h2
 obtain ⟨X,cx,Y,cy,rfl,gX,hX,gY,hY,hb2⟩:=h2
 have hs2 : Below w1.heap.size w1 w2:=two_steps (((Below.refl _ w1).alloc (Nat.le_refl _) _).alloc (by simp) _) hb2
 have hw2:=hw1.trans (hs2.mono hw1.size)
 replace xa:=blk_below xa hs2
 replace xb:=blk_below xb hs2
 clear ga gb hs2 hb2 hw1 gY d0 d1 d2 d3 d4 d5 d6
 clear a0 b0 a1 b1 a2 b2 a3 b3 a4 b4 a5 b5 a6 b6
 obtain ⟨a0,a1,a2,a3,a4,a5,a6⟩:=cells7 xa
 obtain ⟨b0,b1,b2,b3,b4,b5,b6⟩:=cells7 xb
 dsimp only [List.length_cons,List.length_nil]
 go_wp2_with (fail)
 have gl:=lit_nil w2 [Pa,Pb] (by intro x hx; simp only [List.mem_cons,List.not_mem_nil,or_false] at hx; rcases hx with rfl | rfl <;> exact ⟨rfl,rfl⟩) (by decide)
 refine (last_at [Pa,Pb] 0 (some ⟨w2.heap.size,0,none⟩) 2 _ (by intro x hx; simp only [List.mem_cons,List.not_mem_nil,or_false] at hx; rcases hx with rfl | rfl <;> first | exact ok_a | exact ok_b) (by decide) gl (by decide)).mono ?_
 intro e w3 h3
 unfold LastPost at h3
 rw [last_ab] at h3
 obtain ⟨Z,cz,rfl,gZ,hZ,hb3⟩:=h3
 have hs3 : Below w2.heap.size w2 w3:=two_steps (below_alloc (Below.refl _ _) _) hb3
 have hw3:=hw2.trans (hs3.mono hw2.size)
 replace xa:=blk_below xa hs3
 replace gX:=Kd.C_below gX hs3
 clear gl hs3 hb3 hw2 xb
 clear a0 b0 a1 b1 a2 b2 a3 b3 a4 b4 a5 b5 a6 b6
 obtain ⟨a0,a1,a2,a3,a4,a5,a6⟩:=cells7 xa
 dsimp only [List.length_cons,List.length_nil]
 go_wp2_with (fail)
 refine (last_at [] 0 none 0 _ (by intro x hx; cases hx) (by decide) (Kd.C_nil _ _) (Nat.le_refl _)).mono ?_
 intro e w4 h4
 unfold LastPost at h4
 rw [last_nil] at h4
 obtain ⟨U,cu,rfl,-,-,hb4⟩:=h4
 have hw4:=hw3.trans (hb4.mono hw3.size)
 replace xa:=blk_below xa hb4
 replace gX:=Kd.C_below gX hb4
 replace gZ:=Kd.C_below gZ hb4
 clear hb4 hw3 a0 a1 a2 a3 a4 a5 a6
 obtain ⟨a0,a1,a2,a3,a4,a5,a6⟩:=cells7 xa
 obtain ⟨ad,_,_,_,_,rfl,_,zx,_⟩:=at_T24 gX 0 (by omega) (by simp)
 obtain ⟨ad2,_,_,_,_,rfl,_,zz,_⟩:=at_T24 gZ 1 (by omega) (by simp)
 have yx : w4.cell? ⟨ad.block,ad.off + 1,none⟩ = some (.string ⟨#[98]⟩):=by simpa [Addr.add,rd_T24] using zx
 have yz : w4.cell? ⟨ad2.block,ad2.off + 7 + 1,none⟩ = some (.string ⟨#[97]⟩):=by simpa [Addr.add,rd_T24] using zz
 clear zx zz gX gZ
 dsimp only [List.length_cons,List.length_nil]
 go_wp2_with (fail)
 have gl:=lit_nil w4 [Pa] (by intro x hx; rw [List.mem_singleton.1 hx]; exact ⟨rfl,rfl⟩) (by decide)
 refine (coal_at [Pa] (some ⟨w4.heap.size,0,none⟩) 1 _ (by intro x hx; rw [List.mem_singleton.1 hx]; exact ok_a) (by decide) gl (by decide)).mono ?_
 rintro e w5 ⟨v,rfl,hv,hb5⟩
 rw [coal_a] at hv
 obtain ⟨A5,c5,rfl,_⟩:=hv.slice
 have hs5 : Below w4.heap.size w4 w5:=two_steps (below_alloc (Below.refl _ _) _) hb5
 have hw5:=hw4.trans (hs5.mono hw4.size)
 clear gl hv hb5 hs5 hw4 xa yx yz
 clear a0 a1 a2 a3 a4 a5 a6
 dsimp only [List.length_cons,List.length_nil]
 go_wp2
 go_ret
 exact ⟨rfl,hw5⟩
end Go.Proofs.YthhohbidjhcjeaaDoor.H
namespace Go.Proofs.YthhohbidjhcjeaaDoor.H
open Go.RowKit Go.Proofs.YthhohbidjhcjeaaDoorW.PrintWords Go.Proofs.YthhohbidjhcjeaaDoorW.PrintLast Go.Proofs.YthhohbidjhcjeaaDoorW.PrintMore
open Go.Proofs.YthhohbidjhcjeaaDoor.Q Go.Proofs.YthhohbidjhcjeaaDoor.Pl
set_option linter.unusedVariables false
set_option linter.unusedSimpArgs false
theorem infoO : (Tryd.prog.info? 24).map (fun i => (i.zero,i.size,i.bytes)) = some (some (.agg #[(.int .i64 0),(.string ⟨#[]⟩),(.string ⟨#[]⟩),(.string ⟨#[]⟩),(.int .i64 0),(.slice none 0 0),(.slice none 0 0)]),7,112):=by kernel_rfl
theorem greatList_at (l : List S24) (A : Option Addr) (c : Nat) (w : World) (hn : l.length ≤ 140737488355328) (hl : ∀ x ∈ l,Okp x) (gl : Kd.C k24 w A l.length l) (hc : l.length ≤ c) :
  ∃ r,(r = false → l.length ≤ 60) ∧ Calls Tryd.prog 17 #[.slice A l.length c] w fun e w' => e = .returned (.bool r) ∧ Below w.heap.size w w':=by
 obtain ⟨r,hr,h60⟩:=greatList l hn (fun x hx => (hl x hx).ok)
 obtain ⟨k,hk⟩:=hr.rounds
 exact ⟨r,h60,counterpanelaw08_GreatList.calls k A c l r w gl hc hk⟩
theorem sameList_at (l : List S24) (A : Option Addr) (c : Nat) (B : Option Addr) (d : Nat) (w : World) (hn : l.length ≤ 140737488355328) (hl : ∀ x ∈ l,Okp x) (gl : Kd.C k24 w A l.length l) (hc : l.length ≤ c) (gl2 : Kd.C k24 w B l.length l) (hd : l.length ≤ d) :
  Calls Tryd.prog 21 #[.slice A l.length c,.slice B l.length d] w fun e w' => e = .returned (.bool true) ∧ Below w.heap.size w w':=by
 obtain ⟨r,hr,hj⟩:=sameList l l hn (fun x hx => (hl x hx).ok)
 obtain rfl:=hj.2 rfl
 obtain ⟨k,hk⟩:=hr.rounds
 exact counterpaneref08_SameList.calls k A c l B d l true w gl hc gl2 hd hk
theorem okp_swap : ∀ (a b x y : List S24),(∀ p ∈ a,Okp p) → (∀ p ∈ b,Okp p) → swapS a b = some (x,y) → (∀ p ∈ x,Okp p) ∧ (∀ p ∈ y,Okp p) ∧ x.length = b.length ∧ y.length = a.length
 | [],b,x,y,ha,hb,h => by
  simp only [swapS,Option.some.injEq,Prod.mk.injEq] at h
  obtain ⟨rfl,rfl⟩:=h
  exact ⟨hb,(fun p hp => by cases hp),rfl,rfl⟩
 | p :: a,b,x,y,ha,hb,h => by
  rw [swapS] at h
  cases h1 : swapS a b with
  | none => rw [h1] at h; cases h
  | some z =>
   rw [h1,Option.bind_some] at h
   obtain ⟨o1,o2,o3,o4⟩:=okp_swap a b z.1 z.2 (fun q hq => ha q (List.mem_cons_of_mem _ hq)) hb h1
   cases h2 : pastS p z.1 with
   | none => rw [h2] at h; cases h
   | some q =>
    rw [h2] at h
    simp only [Option.map_some,Option.some.injEq,Prod.mk.injEq] at h
    obtain ⟨rfl,rfl⟩:=h
    obtain ⟨q1,q2,q3⟩:=okp_pasts z.1 p (ha p (List.mem_cons_self ..)) o1 q.1 q.2 h2
    refine ⟨q2,fun r hr => ?_,by omega,by simp [o4]⟩
    rcases List.mem_cons.1 hr with rfl | hr
    ·exact q1
    ·exact o2 r hr
theorem swapP_no {a b : List S24} (h : swapS a b = none) : swapP a b = ([],[],false):=by unfold swapP; rw [h]
theorem swapP_yes {a b x y : List S24} (h : swapS a b = some (x,y)) : swapP a b = (x,y,true):=by unfold swapP; rw [h]
set_option maxHeartbeats 8000000 in
set_option maxRecDepth 100000 in
theorem empty_calls (a b c : List S24) (A : Option Addr) (ca : Nat) (B : Option Addr) (cb : Nat) (C : Option Addr) (cc : Nat) (w : World) (ha : ∀ x ∈ a,Okp x) (hb : ∀ x ∈ b,Okp x) (hc : ∀ x ∈ c,Okp x) (na : a.length ≤ 140737488355328) (nb : b.length ≤ 140737488355328) (nc : c.length ≤ 140737488355328) (ga : Kd.C k24 w A a.length a) (hca : a.length ≤ ca) (gb : Kd.C k24 w B b.length b) (hcb : b.length ≤ cb) (gc : Kd.C k24 w C c.length c) (hcc : c.length ≤ cc) :
  Calls Tryd.prog 13 #[.slice A a.length ca,.slice B b.length cb,.slice C c.length cc] w fun e w' => e = .returned (.bool true) ∧ Below w.heap.size w w':=by
 go_enter Tryd.func13,Tryd.ntmps13
 go_wp2_with (fail)
 refine (head11_calls _).mono ?_
 rintro e w1 ⟨rfl,hb1⟩
 have hs1 : Below w.heap.size w w1:=two_steps (by repeat (first | exact Below.refl _ _ | refine Below.setCell ?_ (by simp <;> omega) _ | refine Below.alloc ?_ (by simp <;> omega) _ | refine Below.drew ?_)) hb1
 have hw1 : Below w.heap.size w w1:=(Below.refl w.heap.size w).trans (hs1.mono (Below.refl w.heap.size w).size)
 have ga:=Kd.C_below ga hs1
 have gb:=Kd.C_below gb hs1
 have gc:=Kd.C_below gc hs1
 go_wp2_with (fail)
 obtain ⟨r,hg60,hg⟩:=greatList_at a A ca w1 na ha ga hca
 refine hg.mono ?_
 rintro e w2 ⟨rfl,hb2⟩
 have hs2 : Below w1.heap.size w1 w2:=two_steps (by repeat (first | exact Below.refl _ _ | refine Below.setCell ?_ (by simp <;> omega) _ | refine Below.alloc ?_ (by simp <;> omega) _ | refine Below.drew ?_)) hb2
 have hw2 : Below w.heap.size w w2:=hw1.trans (hs2.mono hw1.size)
 have ga:=Kd.C_below ga hs2
 have gb:=Kd.C_below gb hs2
 have gc:=Kd.C_below gc hs2
 cases r with
 | true =>
  clear hg60
  go_wp2
  go_ret
  exact ⟨rfl,by repeat (first | with_reducible exact hw2 | refine Below.setCell ?_ (by have:=hw2.size; simp <;> omega) _ | refine Below.alloc ?_ (by have:=hw2.size; simp <;> omega) _ | refine Below.drew ?_)⟩
 | false =>
  have la:=Aside0.mk (hg60 rfl)
  clear hg60
  go_wp2_with (fail)
  obtain ⟨r,hg60,hg⟩:=greatList_at b B cb w2 nb hb gb hcb
  refine hg.mono ?_
  rintro e w3 ⟨rfl,hb3⟩
  have hs3 : Below w2.heap.size w2 w3:=two_steps (by repeat (first | exact Below.refl _ _ | refine Below.setCell ?_ (by simp <;> omega) _ | refine Below.alloc ?_ (by simp <;> omega) _ | refine Below.drew ?_)) hb3
  have hw3 : Below w.heap.size w w3:=hw2.trans (hs3.mono hw2.size)
  have ga:=Kd.C_below ga hs3
  have gb:=Kd.C_below gb hs3
  have gc:=Kd.C_below gc hs3
  cases r with
  | true =>
   clear hg60
   go_wp2
   go_ret
   exact ⟨rfl,by repeat (first | with_reducible exact hw3 | refine Below.setCell ?_ (by have:=hw3.size; simp <;> omega) _ | refine Below.alloc ?_ (by have:=hw3.size; simp <;> omega) _ | refine Below.drew ?_)⟩
  | false =>
   have lb:=Aside0.mk (hg60 rfl)
   clear hg60
   go_wp2_with (fail)
   obtain ⟨r,hg60,hg⟩:=greatList_at c C cc w3 nc hc gc hcc
   refine hg.mono ?_
   rintro e w4 ⟨rfl,hb4⟩
   have hs4 : Below w3.heap.size w3 w4:=two_steps (by repeat (first | exact Below.refl _ _ | refine Below.setCell ?_ (by simp <;> omega) _ | refine Below.alloc ?_ (by simp <;> omega) _ | refine Below.drew ?_)) hb4
   have hw4 : Below w.heap.size w w4:=hw3.trans (hs4.mono hw3.size)
   have ga:=Kd.C_below ga hs4
   have gb:=Kd.C_below gb hs4
   have gc:=Kd.C_below gc hs4
   cases r with
   | true =>
    clear hg60
    go_wp2
    go_ret
    exact ⟨rfl,by repeat (first | with_reducible exact hw4 | refine Below.setCell ?_ (by have:=hw4.size; simp <;> omega) _ | refine Below.alloc ?_ (by have:=hw4.size; simp <;> omega) _ | refine Below.drew ?_)⟩
   | false =>
    have lc:=Aside0.mk (hg60 rfl)
    clear hg60
    have ta : Aside0 (a.length ≤ 1000):=⟨by have:=la.out; omega⟩
    have tb : Aside0 (b.length ≤ 1000):=⟨by have:=lb.out; omega⟩
    have tc : Aside0 (c.length ≤ 1000):=⟨by have:=lc.out; omega⟩
    have q0 : Aside0 (swapP a [] = ([],a,true)):=⟨swapP_yes (swap_nil a)⟩
    go_wp2_with (fail)
    refine (callsIn_wide.1 (swap_in a [] A ca none 0 _ ha (fun _ h => by cases h) ta.out (by decide) (Kd.C_below ga (by repeat (first | exact Below.refl _ _ | refine Below.setCell ?_ (by simp <;> omega) _ | refine Below.alloc ?_ (by simp <;> omega) _ | refine Below.drew ?_))) (Kd.C_below (Kd.C_nil k24 w4) (by repeat (first | exact Below.refl _ _ | refine Below.setCell ?_ (by simp <;> omega) _ | refine Below.alloc ?_ (by simp <;> omega) _ | refine Below.drew ?_))))).mono ?_
    intro e w5 h4
    unfold SwapPost at h4
    rw [q0.out] at h4
    dsimp only at h4
    obtain ⟨X1,x1,Y1,y1,rfl,gX1,hX1,gY1,hY1,hb5⟩:=h4
    have hs5 : Below w4.heap.size w4 w5:=two_steps (by repeat (first | exact Below.refl _ _ | refine Below.setCell ?_ (by simp <;> omega) _ | refine Below.alloc ?_ (by simp <;> omega) _ | refine Below.drew ?_)) hb5
    have hw5 : Below w.heap.size w w5:=hw4.trans (hs5.mono hw4.size)
    have ga:=Kd.C_below ga hs5
    have gb:=Kd.C_below gb hs5
    have gc:=Kd.C_below gc hs5
    go_wp2_with (fail)
    refine (sameList_at a Y1 y1 A ca _ na ha (Kd.C_below gY1 (by repeat (first | exact Below.refl _ _ | refine Below.setCell ?_ (by simp <;> omega) _ | refine Below.alloc ?_ (by simp <;> omega) _ | refine Below.drew ?_))) hY1 (Kd.C_below ga (by repeat (first | exact Below.refl _ _ | refine Below.setCell ?_ (by simp <;> omega) _ | refine Below.alloc ?_ (by simp <;> omega) _ | refine Below.drew ?_))) hca).mono ?_
    rintro e w6 ⟨rfl,hb6⟩
    have hs6 : Below w5.heap.size w5 w6:=two_steps (by repeat (first | exact Below.refl _ _ | refine Below.setCell ?_ (by simp <;> omega) _ | refine Below.alloc ?_ (by simp <;> omega) _ | refine Below.drew ?_)) hb6
    have hw6 : Below w.heap.size w w6:=hw5.trans (hs6.mono hw5.size)
    have ga:=Kd.C_below ga hs6
    have gb:=Kd.C_below gb hs6
    have gc:=Kd.C_below gc hs6
    have gX1:=Kd.C_below gX1 hs6
    have gY1:=Kd.C_below gY1 hs6
    have hT : Aside0 (Below w6.heap.size w6 (w6.alloc (.cells #[] 24))):=⟨(Below.refl _ _).alloc (Nat.le_refl _) _⟩
    have hN0 : Aside0 (Kd.N k24 24 (w6.alloc (.cells #[] 24)) w6.heap.size (fun _ => True) (.slice (some ⟨w6.heap.size,0,none⟩) 0 0) []):=⟨lit0 w6 _ (Nat.le_refl _)⟩
    have FA : Aside0 (Kd.F k24 w6 (fun k => k < w6.heap.size) A a.length a):=⟨Kd.C_F k24_heap ga⟩
    have FB : Aside0 (Kd.F k24 w6 (fun k => k < w6.heap.size) B b.length b):=⟨Kd.C_F k24_heap gb⟩
    have ok0 : Aside0 (∀ k,k < w6.heap.size → True ∧ some k ≠ (Value.slice (some ⟨w6.heap.size,0,none⟩) 0 0).ownBlock):=⟨fun k hk => ⟨trivial,fun e => by simp [Value.ownBlock] at e; omega⟩⟩
    have hLL : Aside0 (a.length + b.length ≤ 120):=⟨by have:=la.out; have:=lb.out; omega⟩
    go_upto_region 8 with (first | ((with_reducible refine gate_builtin (b:=.append) (xs:=#[.tmp 53,.tmp 54]) rfl ?_); at_builtin; refine Kd.N_append_rows k24 (w0:=w6) w6.heap.size rfl (.tmp 53) (.tmp 54) 25 24 (.agg #[(.int .i64 0),(.string ⟨#[]⟩),(.string ⟨#[]⟩),(.string ⟨#[]⟩),(.int .i64 0),(.slice none 0 0),(.slice none 0 0)]) 112 rfl Tryd.underlying25 infoO rfl (by decide) (by omega) (.slice (some ⟨w6.heap.size,0,none⟩) 0 0) [] a A a.length ca (fun _ => True) (fun k => k < w6.heap.size) rfl rfl ?aO ?aR ?aP (fun _ _ => trivial) ?aB ?aS ?aL ?_; (case aO => exact hN0.out); (case aR => exact Kd.F_below FA.out hT.out); (case aP => exact ok0.out); (case aB => exact hT.out); (case aS => exact hT.out.size); (case aL => have:=hLL.out; simp; omega); intro v1 y1 hN1 hB1 hg1 hat1; rw [List.nil_append] at hN1; replace hN1:=Aside0.mk hN1; replace hB1:=Aside0.mk hB1; have ok1 : Aside0 (∀ k,k < w6.heap.size → True ∧ some k ≠ v1.ownBlock):=⟨fun k hk => ⟨trivial,fun e => by have:=Kd.N_base hN1.out k e.symm; omega⟩⟩; clear hg1 hat1) | ((with_reducible refine gate_builtin (b:=.append) (xs:=#[.tmp 55,.tmp 56]) rfl ?_); at_builtin; refine Kd.N_append_rows k24 (w0:=w6) w6.heap.size rfl (.tmp 55) (.tmp 56) 25 24 (.agg #[(.int .i64 0),(.string ⟨#[]⟩),(.string ⟨#[]⟩),(.string ⟨#[]⟩),(.int .i64 0),(.slice none 0 0),(.slice none 0 0)]) 112 rfl Tryd.underlying25 infoO rfl (by decide) (by omega) v1 a b B b.length cb (fun _ => True) (fun k => k < w6.heap.size) rfl rfl ?aO ?aR ?aP (fun _ _ => trivial) ?aB ?aS ?aL ?_; (case aO => exact hN1.out); (case aR => exact Kd.F_below FB.out hB1.out); (case aP => exact ok1.out); (case aB => exact hB1.out); (case aS => exact hB1.out.size); (case aL => have:=hLL.out; omega); intro v2 y1 hN2 hB2 hg2 hat2; replace hN2:=Aside0.mk hN2; replace hB2:=Aside0.mk hB2; clear hg2 hat2))
    have hs7 : Below w6.heap.size w6 y1:=hB2.out
    have hw7 : Below w.heap.size w y1:=hw6.trans (hs7.mono hw6.size)
    have ga:=Kd.C_below ga hs7
    have gb:=Kd.C_below gb hs7
    have gc:=Kd.C_below gc hs7
    have gX1:=Kd.C_below gX1 hs7
    have gY1:=Kd.C_below gY1 hs7
    obtain ⟨D1,d1,rfl,hD1,gD1⟩:=Kd.N_reads hN2.out
    clear hT hN0 FA FB ok0 hN1 hB1 ok1 hN2 hB2 hLL
    obtain ⟨j1,hj1⟩ : ∃ l,l = a ++ b:=⟨_,rfl⟩
    rw [← hj1] at hD1 gD1 ⊢
    replace hj1:=Aside0.mk hj1
    have hab : Aside0 (∀ x ∈ j1,Okp x):=⟨fun x hx => by rw [hj1.out] at hx; exact (List.mem_append.1 hx).elim (ha x) (hb x)⟩
    have tj : Aside0 (j1.length ≤ 1000):=⟨by have:=la.out; have:=lb.out; rw [hj1.out,List.length_append]; omega⟩
    cases h1 : swapS b c with
    | none =>
     have e2 : Aside0 (swapP b c = ([],[],false)):=⟨swapP_no h1⟩
     have e1 : Aside0 (swapP j1 c = ([],[],false)):=⟨swapP_no (by rw [hj1.out,swap_append,h1]; rfl)⟩
     clear h1
     go_wp2_with (fail)
     refine (callsIn_wide.1 (swap_in j1 c D1 d1 C cc _ hab.out hc tj.out tc.out (Kd.C_below gD1 (by repeat (first | exact Below.refl _ _ | refine Below.setCell ?_ (by simp <;> omega) _ | refine Below.alloc ?_ (by simp <;> omega) _ | refine Below.drew ?_))) (Kd.C_below gc (by repeat (first | exact Below.refl _ _ | refine Below.setCell ?_ (by simp <;> omega) _ | refine Below.alloc ?_ (by simp <;> omega) _ | refine Below.drew ?_))))).mono ?_
     intro e w8 h4
     unfold SwapPost at h4
     rw [e1.out] at h4
     dsimp only at h4
     obtain ⟨X2,x2,Y2,y2,rfl,gX2,hX2,gY2,hY2,hb8⟩:=h4
     have hs8 : Below y1.heap.size y1 w8:=two_steps (by repeat (first | exact Below.refl _ _ | refine Below.setCell ?_ (by simp <;> omega) _ | refine Below.alloc ?_ (by simp <;> omega) _ | refine Below.drew ?_)) hb8
     have hw8 : Below w.heap.size w w8:=hw7.trans (hs8.mono hw7.size)
     have ga:=Kd.C_below ga hs8
     have gb:=Kd.C_below gb hs8
     have gc:=Kd.C_below gc hs8
     have gX1:=Kd.C_below gX1 hs8
     have gY1:=Kd.C_below gY1 hs8
     have gD1:=Kd.C_below gD1 hs8
     go_wp2_with (fail)
     refine (callsIn_wide.1 (swap_in b c B cb C cc _ hb hc tb.out tc.out (Kd.C_below gb (by repeat (first | exact Below.refl _ _ | refine Below.setCell ?_ (by simp <;> omega) _ | refine Below.alloc ?_ (by simp <;> omega) _ | refine Below.drew ?_))) (Kd.C_below gc (by repeat (first | exact Below.refl _ _ | refine Below.setCell ?_ (by simp <;> omega) _ | refine Below.alloc ?_ (by simp <;> omega) _ | refine Below.drew ?_))))).mono ?_
     intro e w9 h4
     unfold SwapPost at h4
     rw [e2.out] at h4
     dsimp only at h4
     obtain ⟨X3,x3,Y3,y3,rfl,gX3,hX3,gY3,hY3,hb9⟩:=h4
     have hs9 : Below w8.heap.size w8 w9:=two_steps (by repeat (first | exact Below.refl _ _ | refine Below.setCell ?_ (by simp <;> omega) _ | refine Below.alloc ?_ (by simp <;> omega) _ | refine Below.drew ?_)) hb9
     have hw9 : Below w.heap.size w w9:=hw8.trans (hs9.mono hw8.size)
     have ga:=Kd.C_below ga hs9
     have gb:=Kd.C_below gb hs9
     have gc:=Kd.C_below gc hs9
     have gX1:=Kd.C_below gX1 hs9
     have gY1:=Kd.C_below gY1 hs9
     have gD1:=Kd.C_below gD1 hs9
     have gX2:=Kd.C_below gX2 hs9
     have gY2:=Kd.C_below gY2 hs9
     go_wp2
     go_ret
     exact ⟨rfl,by repeat (first | with_reducible exact hw9 | refine Below.setCell ?_ (by have:=hw9.size; simp <;> omega) _ | refine Below.alloc ?_ (by have:=hw9.size; simp <;> omega) _ | refine Below.drew ?_)⟩
    | some pq =>
     obtain ⟨p,q⟩:=pq
     have e2 : Aside0 (swapP b c = (p,q,true)):=⟨swapP_yes h1⟩
     obtain ⟨op,oq,lp,lq⟩:=okp_swap b c p q hb hc h1
     replace lp:=Aside0.mk lp
     replace lq:=Aside0.mk lq
     have tp : Aside0 (p.length ≤ 1000):=⟨by have:=tc.out; have:=lp.out; omega⟩
     cases h2 : swapS a p with
     | none =>
      obtain ⟨n0,hn0⟩ : ∃ l : List S24,l = []:=⟨_,rfl⟩
      have e3 : Aside0 (swapP a p = (n0,n0,false)):=⟨by rw [hn0]; exact swapP_no h2⟩
      replace hn0:=Aside0.mk hn0
      have e1 : Aside0 (swapP j1 c = ([],[],false)):=⟨swapP_no (by rw [hj1.out,swap_append,h1,Option.bind_some,h2]; rfl)⟩
      clear h1 h2
      go_wp2_with (fail)
      refine (callsIn_wide.1 (swap_in j1 c D1 d1 C cc _ hab.out hc tj.out tc.out (Kd.C_below gD1 (by repeat (first | exact Below.refl _ _ | refine Below.setCell ?_ (by simp <;> omega) _ | refine Below.alloc ?_ (by simp <;> omega) _ | refine Below.drew ?_))) (Kd.C_below gc (by repeat (first | exact Below.refl _ _ | refine Below.setCell ?_ (by simp <;> omega) _ | refine Below.alloc ?_ (by simp <;> omega) _ | refine Below.drew ?_))))).mono ?_
      intro e w8 h4
      unfold SwapPost at h4
      rw [e1.out] at h4
      dsimp only at h4
      obtain ⟨X2,x2,Y2,y2,rfl,gX2,hX2,gY2,hY2,hb8⟩:=h4
      have hs8 : Below y1.heap.size y1 w8:=two_steps (by repeat (first | exact Below.refl _ _ | refine Below.setCell ?_ (by simp <;> omega) _ | refine Below.alloc ?_ (by simp <;> omega) _ | refine Below.drew ?_)) hb8
      have hw8 : Below w.heap.size w w8:=hw7.trans (hs8.mono hw7.size)
      have ga:=Kd.C_below ga hs8
      have gb:=Kd.C_below gb hs8
      have gc:=Kd.C_below gc hs8
      have gX1:=Kd.C_below gX1 hs8
      have gY1:=Kd.C_below gY1 hs8
      have gD1:=Kd.C_below gD1 hs8
      go_wp2_with (fail)
      refine (callsIn_wide.1 (swap_in b c B cb C cc _ hb hc tb.out tc.out (Kd.C_below gb (by repeat (first | exact Below.refl _ _ | refine Below.setCell ?_ (by simp <;> omega) _ | refine Below.alloc ?_ (by simp <;> omega) _ | refine Below.drew ?_))) (Kd.C_below gc (by repeat (first | exact Below.refl _ _ | refine Below.setCell ?_ (by simp <;> omega) _ | refine Below.alloc ?_ (by simp <;> omega) _ | refine Below.drew ?_))))).mono ?_
      intro e w9 h4
      unfold SwapPost at h4
      rw [e2.out] at h4
      dsimp only at h4
      obtain ⟨X3,x3,Y3,y3,rfl,gX3,hX3,gY3,hY3,hb9⟩:=h4
      have hs9 : Below w8.heap.size w8 w9:=two_steps (by repeat (first | exact Below.refl _ _ | refine Below.setCell ?_ (by simp <;> omega) _ | refine Below.alloc ?_ (by simp <;> omega) _ | refine Below.drew ?_)) hb9
      have hw9 : Below w.heap.size w w9:=hw8.trans (hs9.mono hw8.size)
      have ga:=Kd.C_below ga hs9
      have gb:=Kd.C_below gb hs9
      have gc:=Kd.C_below gc hs9
      have gX1:=Kd.C_below gX1 hs9
      have gY1:=Kd.C_below gY1 hs9
      have gD1:=Kd.C_below gD1 hs9
      have gX2:=Kd.C_below gX2 hs9
      have gY2:=Kd.C_below gY2 hs9
      go_wp2_with (fail)
      refine (callsIn_wide.1 (swap_in a p A ca X3 x3 _ ha op ta.out tp.out (Kd.C_below ga (by repeat (first | exact Below.refl _ _ | refine Below.setCell ?_ (by simp <;> omega) _ | refine Below.alloc ?_ (by simp <;> omega) _ | refine Below.drew ?_))) (Kd.C_below gX3 (by repeat (first | exact Below.refl _ _ | refine Below.setCell ?_ (by simp <;> omega) _ | refine Below.alloc ?_ (by simp <;> omega) _ | refine Below.drew ?_))))).mono ?_
      intro e w10 h4
      unfold SwapPost at h4
      rw [e3.out] at h4
      dsimp only at h4
      obtain ⟨X4,x4,Y4,y4,rfl,gX4,hX4,gY4,hY4,hb10⟩:=h4
      have hs10 : Below w9.heap.size w9 w10:=two_steps (by repeat (first | exact Below.refl _ _ | refine Below.setCell ?_ (by simp <;> omega) _ | refine Below.alloc ?_ (by simp <;> omega) _ | refine Below.drew ?_)) hb10
      have hw10 : Below w.heap.size w w10:=hw9.trans (hs10.mono hw9.size)
      have ga:=Kd.C_below ga hs10
      have gb:=Kd.C_below gb hs10
      have gc:=Kd.C_below gc hs10
      have gX1:=Kd.C_below gX1 hs10
      have gY1:=Kd.C_below gY1 hs10
      have gD1:=Kd.C_below gD1 hs10
      have gX2:=Kd.C_below gX2 hs10
      have gY2:=Kd.C_below gY2 hs10
      have gX3:=Kd.C_below gX3 hs10
      have gY3:=Kd.C_below gY3 hs10
      have hT : Aside0 (Below w10.heap.size w10 (w10.alloc (.cells #[] 24))):=⟨(Below.refl _ _).alloc (Nat.le_refl _) _⟩
      have hN0 : Aside0 (Kd.N k24 24 (w10.alloc (.cells #[] 24)) w10.heap.size (fun _ => True) (.slice (some ⟨w10.heap.size,0,none⟩) 0 0) []):=⟨lit0 w10 _ (Nat.le_refl _)⟩
      have FA : Aside0 (Kd.F k24 w10 (fun k => k < w10.heap.size) Y4 n0.length n0):=⟨Kd.C_F k24_heap gY4⟩
      have FB : Aside0 (Kd.F k24 w10 (fun k => k < w10.heap.size) Y3 q.length q):=⟨Kd.C_F k24_heap gY3⟩
      have ok0 : Aside0 (∀ k,k < w10.heap.size → True ∧ some k ≠ (Value.slice (some ⟨w10.heap.size,0,none⟩) 0 0).ownBlock):=⟨fun k hk => ⟨trivial,fun e => by simp [Value.ownBlock] at e; omega⟩⟩
      have hLL : Aside0 (n0.length + q.length ≤ 120):=⟨by have:=lb.out; have:=lq.out; rw [hn0.out,List.length_nil]; omega⟩
      go_upto_region 14 with (first | ((with_reducible refine gate_builtin (b:=.append) (xs:=#[.tmp 91,.tmp 92]) rfl ?_); at_builtin; refine Kd.N_append_rows k24 (w0:=w10) w10.heap.size rfl (.tmp 91) (.tmp 92) 25 24 (.agg #[(.int .i64 0),(.string ⟨#[]⟩),(.string ⟨#[]⟩),(.string ⟨#[]⟩),(.int .i64 0),(.slice none 0 0),(.slice none 0 0)]) 112 rfl Tryd.underlying25 infoO rfl (by decide) (by omega) (.slice (some ⟨w10.heap.size,0,none⟩) 0 0) [] n0 Y4 n0.length y4 (fun _ => True) (fun k => k < w10.heap.size) rfl rfl ?aO ?aR ?aP (fun _ _ => trivial) ?aB ?aS ?aL ?_; (case aO => exact hN0.out); (case aR => exact Kd.F_below FA.out hT.out); (case aP => exact ok0.out); (case aB => exact hT.out); (case aS => exact hT.out.size); (case aL => have:=hLL.out; simp; omega); intro v1 y1 hN1 hB1 hg1 hat1; rw [List.nil_append] at hN1; replace hN1:=Aside0.mk hN1; replace hB1:=Aside0.mk hB1; have ok1 : Aside0 (∀ k,k < w10.heap.size → True ∧ some k ≠ v1.ownBlock):=⟨fun k hk => ⟨trivial,fun e => by have:=Kd.N_base hN1.out k e.symm; omega⟩⟩; clear hg1 hat1) | ((with_reducible refine gate_builtin (b:=.append) (xs:=#[.tmp 93,.tmp 94]) rfl ?_); at_builtin; refine Kd.N_append_rows k24 (w0:=w10) w10.heap.size rfl (.tmp 93) (.tmp 94) 25 24 (.agg #[(.int .i64 0),(.string ⟨#[]⟩),(.string ⟨#[]⟩),(.string ⟨#[]⟩),(.int .i64 0),(.slice none 0 0),(.slice none 0 0)]) 112 rfl Tryd.underlying25 infoO rfl (by decide) (by omega) v1 n0 q Y3 q.length y3 (fun _ => True) (fun k => k < w10.heap.size) rfl rfl ?aO ?aR ?aP (fun _ _ => trivial) ?aB ?aS ?aL ?_; (case aO => exact hN1.out); (case aR => exact Kd.F_below FB.out hB1.out); (case aP => exact ok1.out); (case aB => exact hB1.out); (case aS => exact hB1.out.size); (case aL => have:=hLL.out; omega); intro v2 y5 hN2 hB2 hg2 hat2; replace hN2:=Aside0.mk hN2; replace hB2:=Aside0.mk hB2; clear hg2 hat2))
      have hs11 : Below w10.heap.size w10 y5:=hB2.out
      have hw11 : Below w.heap.size w y5:=hw10.trans (hs11.mono hw10.size)
      have ga:=Kd.C_below ga hs11
      have gb:=Kd.C_below gb hs11
      have gc:=Kd.C_below gc hs11
      have gX1:=Kd.C_below gX1 hs11
      have gY1:=Kd.C_below gY1 hs11
      have gD1:=Kd.C_below gD1 hs11
      have gX2:=Kd.C_below gX2 hs11
      have gY2:=Kd.C_below gY2 hs11
      have gX3:=Kd.C_below gX3 hs11
      have gY3:=Kd.C_below gY3 hs11
      have gX4:=Kd.C_below gX4 hs11
      have gY4:=Kd.C_below gY4 hs11
      obtain ⟨D5,d5,rfl,hD5,gD5⟩:=Kd.N_reads hN2.out
      clear hT hN0 FA FB ok0 hN1 hB1 ok1 hN2 hB2 hLL
      obtain ⟨j5,hj5⟩ : ∃ l,l = n0 ++ q:=⟨_,rfl⟩
      rw [← hj5] at hD5 gD5 ⊢
      replace hj5:=Aside0.mk hj5
      go_wp2
      go_ret
      exact ⟨rfl,by repeat (first | with_reducible exact hw11 | refine Below.setCell ?_ (by have:=hw11.size; simp <;> omega) _ | refine Below.alloc ?_ (by have:=hw11.size; simp <;> omega) _ | refine Below.drew ?_)⟩
     | some st =>
      obtain ⟨s,t⟩:=st
      have e3 : Aside0 (swapP a p = (s,t,true)):=⟨swapP_yes h2⟩
      obtain ⟨os,ot,ls,lt⟩:=okp_swap a p s t ha op h2
      replace ls:=Aside0.mk ls
      replace lt:=Aside0.mk lt
      obtain ⟨tq,htq⟩ : ∃ l,l = t ++ q:=⟨_,rfl⟩
      replace htq:=Aside0.mk htq
      have e1 : Aside0 (swapP j1 c = (s,tq,true)):=⟨swapP_yes (by rw [hj1.out,swap_append,h1,Option.bind_some,h2,htq.out]; rfl)⟩
      clear h1 h2
      have otq : Aside0 (∀ x ∈ tq,Okp x):=⟨fun x hx => by rw [htq.out] at hx; exact (List.mem_append.1 hx).elim (ot x) (oq x)⟩
      have ns : Aside0 (s.length ≤ 140737488355328):=⟨by have:=ls.out; have:=tp.out; omega⟩
      have ntq : Aside0 (tq.length ≤ 140737488355328):=⟨by have:=la.out; have:=lb.out; have:=lt.out; have:=lq.out; rw [htq.out,List.length_append]; omega⟩
      go_wp2_with (fail)
      refine (callsIn_wide.1 (swap_in j1 c D1 d1 C cc _ hab.out hc tj.out tc.out (Kd.C_below gD1 (by repeat (first | exact Below.refl _ _ | refine Below.setCell ?_ (by simp <;> omega) _ | refine Below.alloc ?_ (by simp <;> omega) _ | refine Below.drew ?_))) (Kd.C_below gc (by repeat (first | exact Below.refl _ _ | refine Below.setCell ?_ (by simp <;> omega) _ | refine Below.alloc ?_ (by simp <;> omega) _ | refine Below.drew ?_))))).mono ?_
      intro e w8 h4
      unfold SwapPost at h4
      rw [e1.out] at h4
      dsimp only at h4
      obtain ⟨X2,x2,Y2,y2,rfl,gX2,hX2,gY2,hY2,hb8⟩:=h4
      have hs8 : Below y1.heap.size y1 w8:=two_steps (by repeat (first | exact Below.refl _ _ | refine Below.setCell ?_ (by simp <;> omega) _ | refine Below.alloc ?_ (by simp <;> omega) _ | refine Below.drew ?_)) hb8
      have hw8 : Below w.heap.size w w8:=hw7.trans (hs8.mono hw7.size)
      have ga:=Kd.C_below ga hs8
      have gb:=Kd.C_below gb hs8
      have gc:=Kd.C_below gc hs8
      have gX1:=Kd.C_below gX1 hs8
      have gY1:=Kd.C_below gY1 hs8
      have gD1:=Kd.C_below gD1 hs8
      go_wp2_with (fail)
      refine (callsIn_wide.1 (swap_in b c B cb C cc _ hb hc tb.out tc.out (Kd.C_below gb (by repeat (first | exact Below.refl _ _ | refine Below.setCell ?_ (by simp <;> omega) _ | refine Below.alloc ?_ (by simp <;> omega) _ | refine Below.drew ?_))) (Kd.C_below gc (by repeat (first | exact Below.refl _ _ | refine Below.setCell ?_ (by simp <;> omega) _ | refine Below.alloc ?_ (by simp <;> omega) _ | refine Below.drew ?_))))).mono ?_
      intro e w9 h4
      unfold SwapPost at h4
      rw [e2.out] at h4
      dsimp only at h4
      obtain ⟨X3,x3,Y3,y3,rfl,gX3,hX3,gY3,hY3,hb9⟩:=h4
      have hs9 : Below w8.heap.size w8 w9:=two_steps (by repeat (first | exact Below.refl _ _ | refine Below.setCell ?_ (by simp <;> omega) _ | refine Below.alloc ?_ (by simp <;> omega) _ | refine Below.drew ?_)) hb9
      have hw9 : Below w.heap.size w w9:=hw8.trans (hs9.mono hw8.size)
      have ga:=Kd.C_below ga hs9
      have gb:=Kd.C_below gb hs9
      have gc:=Kd.C_below gc hs9
      have gX1:=Kd.C_below gX1 hs9
      have gY1:=Kd.C_below gY1 hs9
      have gD1:=Kd.C_below gD1 hs9
      have gX2:=Kd.C_below gX2 hs9
      have gY2:=Kd.C_below gY2 hs9
      go_wp2_with (fail)
      refine (callsIn_wide.1 (swap_in a p A ca X3 x3 _ ha op ta.out tp.out (Kd.C_below ga (by repeat (first | exact Below.refl _ _ | refine Below.setCell ?_ (by simp <;> omega) _ | refine Below.alloc ?_ (by simp <;> omega) _ | refine Below.drew ?_))) (Kd.C_below gX3 (by repeat (first | exact Below.refl _ _ | refine Below.setCell ?_ (by simp <;> omega) _ | refine Below.alloc ?_ (by simp <;> omega) _ | refine Below.drew ?_))))).mono ?_
      intro e w10 h4
      unfold SwapPost at h4
      rw [e3.out] at h4
      dsimp only at h4
      obtain ⟨X4,x4,Y4,y4,rfl,gX4,hX4,gY4,hY4,hb10⟩:=h4
      have hs10 : Below w9.heap.size w9 w10:=two_steps (by repeat (first | exact Below.refl _ _ | refine Below.setCell ?_ (by simp <;> omega) _ | refine Below.alloc ?_ (by simp <;> omega) _ | refine Below.drew ?_)) hb10
      have hw10 : Below w.heap.size w w10:=hw9.trans (hs10.mono hw9.size)
      have ga:=Kd.C_below ga hs10
      have gb:=Kd.C_below gb hs10
      have gc:=Kd.C_below gc hs10
      have gX1:=Kd.C_below gX1 hs10
      have gY1:=Kd.C_below gY1 hs10
      have gD1:=Kd.C_below gD1 hs10
      have gX2:=Kd.C_below gX2 hs10
      have gY2:=Kd.C_below gY2 hs10
      have gX3:=Kd.C_below gX3 hs10
      have gY3:=Kd.C_below gY3 hs10
      have hT : Aside0 (Below w10.heap.size w10 (w10.alloc (.cells #[] 24))):=⟨(Below.refl _ _).alloc (Nat.le_refl _) _⟩
      have hN0 : Aside0 (Kd.N k24 24 (w10.alloc (.cells #[] 24)) w10.heap.size (fun _ => True) (.slice (some ⟨w10.heap.size,0,none⟩) 0 0) []):=⟨lit0 w10 _ (Nat.le_refl _)⟩
      have FA : Aside0 (Kd.F k24 w10 (fun k => k < w10.heap.size) Y4 t.length t):=⟨Kd.C_F k24_heap gY4⟩
      have FB : Aside0 (Kd.F k24 w10 (fun k => k < w10.heap.size) Y3 q.length q):=⟨Kd.C_F k24_heap gY3⟩
      have ok0 : Aside0 (∀ k,k < w10.heap.size → True ∧ some k ≠ (Value.slice (some ⟨w10.heap.size,0,none⟩) 0 0).ownBlock):=⟨fun k hk => ⟨trivial,fun e => by simp [Value.ownBlock] at e; omega⟩⟩
      have hLL : Aside0 (t.length + q.length ≤ 120):=⟨by have:=la.out; have:=lb.out; have:=lt.out; have:=lq.out; omega⟩
      go_upto_region 14 with (first | ((with_reducible refine gate_builtin (b:=.append) (xs:=#[.tmp 91,.tmp 92]) rfl ?_); at_builtin; refine Kd.N_append_rows k24 (w0:=w10) w10.heap.size rfl (.tmp 91) (.tmp 92) 25 24 (.agg #[(.int .i64 0),(.string ⟨#[]⟩),(.string ⟨#[]⟩),(.string ⟨#[]⟩),(.int .i64 0),(.slice none 0 0),(.slice none 0 0)]) 112 rfl Tryd.underlying25 infoO rfl (by decide) (by omega) (.slice (some ⟨w10.heap.size,0,none⟩) 0 0) [] t Y4 t.length y4 (fun _ => True) (fun k => k < w10.heap.size) rfl rfl ?aO ?aR ?aP (fun _ _ => trivial) ?aB ?aS ?aL ?_; (case aO => exact hN0.out); (case aR => exact Kd.F_below FA.out hT.out); (case aP => exact ok0.out); (case aB => exact hT.out); (case aS => exact hT.out.size); (case aL => have:=hLL.out; simp; omega); intro v1 y1 hN1 hB1 hg1 hat1; rw [List.nil_append] at hN1; replace hN1:=Aside0.mk hN1; replace hB1:=Aside0.mk hB1; have ok1 : Aside0 (∀ k,k < w10.heap.size → True ∧ some k ≠ v1.ownBlock):=⟨fun k hk => ⟨trivial,fun e => by have:=Kd.N_base hN1.out k e.symm; omega⟩⟩; clear hg1 hat1) | ((with_reducible refine gate_builtin (b:=.append) (xs:=#[.tmp 93,.tmp 94]) rfl ?_); at_builtin; refine Kd.N_append_rows k24 (w0:=w10) w10.heap.size rfl (.tmp 93) (.tmp 94) 25 24 (.agg #[(.int .i64 0),(.string ⟨#[]⟩),(.string ⟨#[]⟩),(.string ⟨#[]⟩),(.int .i64 0),(.slice none 0 0),(.slice none 0 0)]) 112 rfl Tryd.underlying25 infoO rfl (by decide) (by omega) v1 t q Y3 q.length y3 (fun _ => True) (fun k => k < w10.heap.size) rfl rfl ?aO ?aR ?aP (fun _ _ => trivial) ?aB ?aS ?aL ?_; (case aO => exact hN1.out); (case aR => exact Kd.F_below FB.out hB1.out); (case aP => exact ok1.out); (case aB => exact hB1.out); (case aS => exact hB1.out.size); (case aL => have:=hLL.out; omega); intro v2 y5 hN2 hB2 hg2 hat2; replace hN2:=Aside0.mk hN2; replace hB2:=Aside0.mk hB2; clear hg2 hat2))
      have hs11 : Below w10.heap.size w10 y5:=hB2.out
      have hw11 : Below w.heap.size w y5:=hw10.trans (hs11.mono hw10.size)
      have ga:=Kd.C_below ga hs11
      have gb:=Kd.C_below gb hs11
      have gc:=Kd.C_below gc hs11
      have gX1:=Kd.C_below gX1 hs11
      have gY1:=Kd.C_below gY1 hs11
      have gD1:=Kd.C_below gD1 hs11
      have gX2:=Kd.C_below gX2 hs11
      have gY2:=Kd.C_below gY2 hs11
      have gX3:=Kd.C_below gX3 hs11
      have gY3:=Kd.C_below gY3 hs11
      have gX4:=Kd.C_below gX4 hs11
      have gY4:=Kd.C_below gY4 hs11
      obtain ⟨D5,d5,rfl,hD5,gD5⟩:=Kd.N_reads hN2.out
      clear hT hN0 FA FB ok0 hN1 hB1 ok1 hN2 hB2 hLL
      obtain ⟨j5,hj5⟩ : ∃ l,l = t ++ q:=⟨_,rfl⟩
      rw [← hj5] at hD5 gD5 ⊢
      replace hj5:=Aside0.mk hj5
      have hjt : j5 = tq:=by rw [hj5.out,htq.out]
      rw [hjt] at hD5 gD5 ⊢
      clear hjt
      go_wp2_with (fail)
      refine (sameList_at s X2 x2 X4 x4 _ ns.out os (Kd.C_below gX2 (by repeat (first | exact Below.refl _ _ | refine Below.setCell ?_ (by simp <;> omega) _ | refine Below.alloc ?_ (by simp <;> omega) _ | refine Below.drew ?_))) hX2 (Kd.C_below gX4 (by repeat (first | exact Below.refl _ _ | refine Below.setCell ?_ (by simp <;> omega) _ | refine Below.alloc ?_ (by simp <;> omega) _ | refine Below.drew ?_))) hX4).mono ?_
      rintro e w12 ⟨rfl,hb12⟩
      have hs12 : Below y5.heap.size y5 w12:=two_steps (by repeat (first | exact Below.refl _ _ | refine Below.setCell ?_ (by simp <;> omega) _ | refine Below.alloc ?_ (by simp <;> omega) _ | refine Below.drew ?_)) hb12
      have hw12 : Below w.heap.size w w12:=hw11.trans (hs12.mono hw11.size)
      have ga:=Kd.C_below ga hs12
      have gb:=Kd.C_below gb hs12
      have gc:=Kd.C_below gc hs12
      have gX1:=Kd.C_below gX1 hs12
      have gY1:=Kd.C_below gY1 hs12
      have gD1:=Kd.C_below gD1 hs12
      have gX2:=Kd.C_below gX2 hs12
      have gY2:=Kd.C_below gY2 hs12
      have gX3:=Kd.C_below gX3 hs12
      have gY3:=Kd.C_below gY3 hs12
      have gX4:=Kd.C_below gX4 hs12
      have gY4:=Kd.C_below gY4 hs12
      have gD5:=Kd.C_below gD5 hs12
      go_wp2_with (fail)
      refine (sameList_at tq Y2 y2 D5 d5 _ ntq.out otq.out (Kd.C_below gY2 (by repeat (first | exact Below.refl _ _ | refine Below.setCell ?_ (by simp <;> omega) _ | refine Below.alloc ?_ (by simp <;> omega) _ | refine Below.drew ?_))) hY2 (Kd.C_below gD5 (by repeat (first | exact Below.refl _ _ | refine Below.setCell ?_ (by simp <;> omega) _ | refine Below.alloc ?_ (by simp <;> omega) _ | refine Below.drew ?_))) hD5).mono ?_
      rintro e w13 ⟨rfl,hb13⟩
      have hs13 : Below w12.heap.size w12 w13:=two_steps (by repeat (first | exact Below.refl _ _ | refine Below.setCell ?_ (by simp <;> omega) _ | refine Below.alloc ?_ (by simp <;> omega) _ | refine Below.drew ?_)) hb13
      have hw13 : Below w.heap.size w w13:=hw12.trans (hs13.mono hw12.size)
      have ga:=Kd.C_below ga hs13
      have gb:=Kd.C_below gb hs13
      have gc:=Kd.C_below gc hs13
      have gX1:=Kd.C_below gX1 hs13
      have gY1:=Kd.C_below gY1 hs13
      have gD1:=Kd.C_below gD1 hs13
      have gX2:=Kd.C_below gX2 hs13
      have gY2:=Kd.C_below gY2 hs13
      have gX3:=Kd.C_below gX3 hs13
      have gY3:=Kd.C_below gY3 hs13
      have gX4:=Kd.C_below gX4 hs13
      have gY4:=Kd.C_below gY4 hs13
      have gD5:=Kd.C_below gD5 hs13
      go_wp2
      go_ret
      exact ⟨rfl,by repeat (first | with_reducible exact hw13 | refine Below.setCell ?_ (by have:=hw13.size; simp <;> omega) _ | refine Below.alloc ?_ (by have:=hw13.size; simp <;> omega) _ | refine Below.drew ?_)⟩
end Go.Proofs.YthhohbidjhcjeaaDoor.H
