/- The contract of commute.Past. -/
import Derived.Test.YthhohbidjhcjeaaDoorTCi
namespace Go.Proofs.YthhohbidjhcjeaaDoor.H
open Go.RowKit Go.Proofs.YthhohbidjhcjeaaDoorW.PrintWords Go.Proofs.YthhohbidjhcjeaaDoorW.PrintLast Go.Proofs.YthhohbidjhcjeaaDoorW.PrintMore
open Go.Proofs.YthhohbidjhcjeaaDoor.Q Go.Proofs.YthhohbidjhcjeaaDoor.Pl

theorem ret26 {tmps : Array Value} {W : World} {gy : Nat} {y0 y1 y2 y3 y4 y5 y6 v r : Value} (h4 : tmps[4]? = some v) (h5 : tmps[5]? = some (.pointer (some ⟨gy,0,none⟩))) (h6 : tmps[6]? = some r)
  (hy : W.heap[gy]? = some (.cells #[y0,y1,y2,y3,y4,y5,y6] 24 (0,0))) :
  (results Tryd.f26 tmps).run Tryd.prog W = .ok (.tuple #[v,.agg #[y0,y1,y2,y3,y4,y5,y6],r]) W:=by
 have yc0 : W.cell? ⟨gy,0,none⟩ = some y0:=(blk_cell hy 0).trans rfl
 have yc1 : W.cell? ⟨gy,1,none⟩ = some y1:=(blk_cell hy 1).trans rfl
 have yc2 : W.cell? ⟨gy,2,none⟩ = some y2:=(blk_cell hy 2).trans rfl
 have yc3 : W.cell? ⟨gy,3,none⟩ = some y3:=(blk_cell hy 3).trans rfl
 have yc4 : W.cell? ⟨gy,4,none⟩ = some y4:=(blk_cell hy 4).trans rfl
 have yc5 : W.cell? ⟨gy,5,none⟩ = some y5:=(blk_cell hy 5).trans rfl
 have yc6 : W.cell? ⟨gy,6,none⟩ = some y6:=(blk_cell hy 6).trans rfl
 simp [results,Tryd.results26,go_sem, *]
theorem infoQ : (Tryd.prog.info? 24).map (fun i => (i.zero,i.size,i.bytes)) = some (some (.agg #[(.int .i64 0),(.string ⟨#[]⟩),(.string ⟨#[]⟩),(.string ⟨#[]⟩),(.int .i64 0),(.slice none 0 0),(.slice none 0 0)]),7,112):=by kernel_rfl
theorem N_far7 {W : World} {base : Nat} {ok : Nat → Prop} {v : Value} {xs : List S24} {g : Nat} (h : Kd.N k24 24 W base ok v xs) (hg : ∀ k,ok k → k ≠ g) (v0 v1 v2 v3 v4 v5 v6 : Value) :
  Kd.N k24 24 (((((((W.setCell ⟨g,0,none⟩ v0).setCell ⟨g,1,none⟩ v1).setCell ⟨g,2,none⟩ v2).setCell ⟨g,3,none⟩ v3).setCell ⟨g,4,none⟩ v4).setCell ⟨g,5,none⟩ v5).setCell ⟨g,6,none⟩ v6) base ok v xs :=
 Kd.N_far (p:=⟨g,6,none⟩) (Kd.N_far (p:=⟨g,5,none⟩) (Kd.N_far (p:=⟨g,4,none⟩) (Kd.N_far (p:=⟨g,3,none⟩) (Kd.N_far (p:=⟨g,2,none⟩) (Kd.N_far (p:=⟨g,1,none⟩) (Kd.N_far (p:=⟨g,0,none⟩) h hg v0) hg v1) hg v2) hg v3) hg v4) hg v5) hg v6
theorem C_far7 {W : World} {base : Nat} {D : Option Addr} {d : Nat} {xs : List S24} (h : Kd.N k24 24 W base (fun k_ => k_ ≠ base ∧ k_ ≠ base + 1) (.slice D xs.length d) xs) (v0 v1 v2 v3 v4 v5 v6 : Value) :
  Kd.C k24 (((((((W.setCell ⟨base + 1,0,none⟩ v0).setCell ⟨base + 1,1,none⟩ v1).setCell ⟨base + 1,2,none⟩ v2).setCell ⟨base + 1,3,none⟩ v3).setCell ⟨base + 1,4,none⟩ v4).setCell ⟨base + 1,5,none⟩ v5).setCell ⟨base + 1,6,none⟩ v6) D xs.length xs :=
 (Kd.N_reads' (N_far7 h (fun _ hk => hk.2) v0 v1 v2 v3 v4 v5 v6)).2.2
/-- What Past hands back. -/
def PastPost (w : World) (p : S24) (l : List S24) (e : Ending) (w' : World) : Prop :=
 ∃ D d C5 e5 C6 e6,e = .returned (.tuple #[.slice D (past p l).1.length d,.agg (cs (past p l).2.1 C5 e5 C6 e6),.bool (past p l).2.2]) ∧ Kd.C k24 w' D (past p l).1.length (past p l).1 ∧ (past p l).1.length ≤ d ∧ Rd w' (past p l).2.1 C5 e5 C6 e6 ∧ Below w.heap.size w w'
set_option maxHeartbeats 8000000 in
set_option maxRecDepth 100000 in
theorem past_at (p : S24) (l : List S24) (A5 : Option Addr) (a5 : Nat) (A6 : Option Addr) (a6 : Nat) (A : Option Addr) (c : Nat) (w : World) (hp : Okp p) (hl : ∀ x ∈ l,Okp x) (hn : l.length * 112 ≤ 140737488355328) (rp : Rd w p A5 a5 A6 a6) (gl : Kd.C k24 w A l.length l) (_hlc : l.length ≤ c) :
  Calls Tryd.prog 26 #[.agg #[.int .i64 p.f0,.string p.f1,.string p.f2,.string p.f3,.int .i64 p.f4,.slice A5 p.f5.length a5,.slice A6 p.f6.length a6],.slice A l.length c] w (PastPost w p l):=by
 go_enter Tryd.func26,Tryd.ntmps26
 go_wp2
 go_loopg [7,15] l.length (fun kq v7 v15 w' => ∃ (i : Nat) (ys : List S24) (p' : S24) (C5 : Option Addr) (e5 : Nat) (C6 : Option Addr) (e6 : Nat),v15 = .int .i64 (i : Int) ∧ Aside0 (i + kq = l.length) ∧ Aside0 (pastS p l = (pastS p' (l.drop i)).map (fun r => (ys ++ r.1,r.2))) ∧ Aside0 (ys.length = i) ∧ Aside0 (Okp p') ∧ Aside0 (Rd w p' C5 e5 C6 e6) ∧ Aside0 (Kd.N k24 24 w' w.heap.size (fun k_ => k_ ≠ w.heap.size ∧ k_ ≠ w.heap.size + 1) v7 ys) ∧ Aside0 (w'.heap[w.heap.size]? = some (.cells #[.int .i64 p'.f0,.string p'.f1,.string p'.f2,.string p'.f3,.int .i64 p'.f4,.slice C5 p'.f5.length e5,.slice C6 p'.f6.length e6] 24 (0,0))) ∧ Aside0 (w'.heap[w.heap.size + 1]? = some (.cells zeroC 24 (0,0))) ∧ Aside0 (Below w.heap.size w w'))
 case atStart => exact ⟨0,[],p,A5,a5,A6,a6,rfl,⟨by omega⟩,⟨by cases h : pastS p l with | none => rw [List.drop_zero,h]; rfl | some r => rw [List.drop_zero,h]; rfl⟩,⟨rfl⟩,⟨hp⟩,⟨rp⟩,⟨Kd.N_nil _ _ _ _ _⟩,⟨box1 w _ _⟩,⟨box2 w _ _⟩,⟨((Below.refl _ w).alloc (Nat.le_refl _) _).alloc (by simp) _⟩⟩
 case round =>
  obtain ⟨i,ys,p',C5,e5,C6,e6,rfl,hk,hpast,hlen,hp',rp',hN,xp,xr,hB⟩:=hrel
  by_cases hi : i < l.length
  ·have c1b : decide ((i : Int) < (l.length : Int)) = true:=decide_eq_true (by omega)
   obtain ⟨ad,X5,x5,X6,x6,eA,y0,y1,y2,y3,y4,y5,y6,l5,g5,l6,g6⟩:=at_T24 gl (i : Int) (by omega) (by omega)
   obtain ⟨x,hx⟩ : ∃ x,rd_T24 l (i : Int) = x:=⟨_,rfl⟩
   rw [hx] at y0 y1 y2 y3 y4 y5 y6 l5 g5 l6 g6
   have hxm : x = l[i]:=by rw [← hx,rd_T24_get l hi]
   have rx : Aside0 (Rd w x X5 x5 X6 x6):=⟨⟨g5,l5,g6,l6⟩⟩
   have hox : Okp x:=by rw [hxm]; exact hl _ (List.getElem_mem hi)
   have hbW:=hB.out
   have i0 : (0 : Int) ≤ (i : Int):=by omega
   have i1 : (i : Int) < (l.length : Int):=by omega
   have z0:=pw_cell_below hbW y0
   have z1:=pw_cell_below hbW y1
   have z2:=pw_cell_below hbW y2
   have z3:=pw_cell_below hbW y3
   have z4:=pw_cell_below hbW y4
   have z5:=pw_cell_below hbW y5
   have z6:=pw_cell_below hbW y6
   simp only [Int.toNat_natCast] at z0 z1 z2 z3 z4 z5 z6
   clear y0 y1 y2 y3 y4 y5 y6 l5 g5 l6 g6 hx
   subst eA
   have hszw:=hbW.size
   have pc0 : wr.cell? ⟨w.heap.size,0,none⟩ = some (.int .i64 p'.f0):=(blk_cell xp.out 0).trans rfl
   have pc1 : wr.cell? ⟨w.heap.size,1,none⟩ = some (.string p'.f1):=(blk_cell xp.out 1).trans rfl
   have pc2 : wr.cell? ⟨w.heap.size,2,none⟩ = some (.string p'.f2):=(blk_cell xp.out 2).trans rfl
   have pc3 : wr.cell? ⟨w.heap.size,3,none⟩ = some (.string p'.f3):=(blk_cell xp.out 3).trans rfl
   have pc4 : wr.cell? ⟨w.heap.size,4,none⟩ = some (.int .i64 p'.f4):=(blk_cell xp.out 4).trans rfl
   have pc5 : wr.cell? ⟨w.heap.size,5,none⟩ = some (.slice C5 p'.f5.length e5):=(blk_cell xp.out 5).trans rfl
   have pc6 : wr.cell? ⟨w.heap.size,6,none⟩ = some (.slice C6 p'.f6.length e6):=(blk_cell xp.out 6).trans rfl
   have pd0 : ∀ o,(wr.alloc o).cell? ⟨w.heap.size,0,none⟩ = some (.int .i64 p'.f0):=fun o => (blk_cell (blk_alloc xp.out o) 0).trans rfl
   have pd1 : ∀ o,(wr.alloc o).cell? ⟨w.heap.size,1,none⟩ = some (.string p'.f1):=fun o => (blk_cell (blk_alloc xp.out o) 1).trans rfl
   have pd2 : ∀ o,(wr.alloc o).cell? ⟨w.heap.size,2,none⟩ = some (.string p'.f2):=fun o => (blk_cell (blk_alloc xp.out o) 2).trans rfl
   have pd3 : ∀ o,(wr.alloc o).cell? ⟨w.heap.size,3,none⟩ = some (.string p'.f3):=fun o => (blk_cell (blk_alloc xp.out o) 3).trans rfl
   have pd4 : ∀ o,(wr.alloc o).cell? ⟨w.heap.size,4,none⟩ = some (.int .i64 p'.f4):=fun o => (blk_cell (blk_alloc xp.out o) 4).trans rfl
   have pd5 : ∀ o,(wr.alloc o).cell? ⟨w.heap.size,5,none⟩ = some (.slice C5 p'.f5.length e5):=fun o => (blk_cell (blk_alloc xp.out o) 5).trans rfl
   have pd6 : ∀ o,(wr.alloc o).cell? ⟨w.heap.size,6,none⟩ = some (.slice C6 p'.f6.length e6):=fun o => (blk_cell (blk_alloc xp.out o) 6).trans rfl
   have hxl:=Aside0.mk hxm
   clear hxm hbW
   go_wp2_with (fail)
   refine (comm_at p' x C5 e5 C6 e6 X5 x5 X6 x6 _ hp'.out hox ((rp'.out.below hB.out).below (by repeat (first | exact Below.refl _ _ | refine Below.setCell ?_ (by simp <;> omega) _ | refine Below.alloc ?_ (by simp <;> omega) _ | refine Below.drew ?_))) ((rx.out.below hB.out).below (by repeat (first | exact Below.refl _ _ | refine Below.setCell ?_ (by simp <;> omega) _ | refine Below.alloc ?_ (by simp <;> omega) _ | refine Below.drew ?_)))).mono ?_
   rintro e w2 ⟨h4,hb2⟩
   clear pc0 pc1 pc2 pc3 pc4 pc5 pc6 z0 pd0 z1 pd1 z2 pd2 z3 pd3 z4 pd4 z5 pd5 z6 pd6
   have hs2 : Below wr.heap.size wr w2:=two_steps (by repeat (first | exact Below.refl _ _ | refine Below.setCell ?_ (by simp <;> omega) _ | refine Below.alloc ?_ (by simp <;> omega) _ | refine Below.drew ?_)) hb2
   clear hb2
   have hB2 : Aside0 (Below w.heap.size w w2):=⟨hB.out.trans (hs2.mono hB.out.size)⟩
   have xp2:=blk_below xp.out hs2
   have xr2:=blk_below xr.out hs2
   have hN2:=Aside0.mk (Kd.N_below hN.out hs2)
   have hsz2:=hs2.size
   have hdrop : l.drop i = x :: l.drop (i + 1):=by rw [hxl.out]; exact List.drop_eq_getElem_cons hi
   have hdr:=Aside0.mk hdrop
   clear hdrop hs2
   rcases h4 with ⟨hn4,rfl⟩ | ⟨a,b,hy,rfl⟩
   ·have hno:=Aside0.mk hn4
    clear hn4
    have xc0 : ∀ o o',((w2.alloc o).alloc o').cell? ⟨w.heap.size + 1,0,none⟩ = some (.int .i64 0):=fun o o' => (blk_cell (blk_alloc (blk_alloc xr2 o) o') 0).trans rfl
    have xc1 : ∀ o o',((w2.alloc o).alloc o').cell? ⟨w.heap.size + 1,1,none⟩ = some (.string ⟨#[]⟩):=fun o o' => (blk_cell (blk_alloc (blk_alloc xr2 o) o') 1).trans rfl
    have xc2 : ∀ o o',((w2.alloc o).alloc o').cell? ⟨w.heap.size + 1,2,none⟩ = some (.string ⟨#[]⟩):=fun o o' => (blk_cell (blk_alloc (blk_alloc xr2 o) o') 2).trans rfl
    have xc3 : ∀ o o',((w2.alloc o).alloc o').cell? ⟨w.heap.size + 1,3,none⟩ = some (.string ⟨#[]⟩):=fun o o' => (blk_cell (blk_alloc (blk_alloc xr2 o) o') 3).trans rfl
    have xc4 : ∀ o o',((w2.alloc o).alloc o').cell? ⟨w.heap.size + 1,4,none⟩ = some (.int .i64 0):=fun o o' => (blk_cell (blk_alloc (blk_alloc xr2 o) o') 4).trans rfl
    have xc5 : ∀ o o',((w2.alloc o).alloc o').cell? ⟨w.heap.size + 1,5,none⟩ = some (.slice none 0 0):=fun o o' => (blk_cell (blk_alloc (blk_alloc xr2 o) o') 5).trans rfl
    have xc6 : ∀ o o',((w2.alloc o).alloc o').cell? ⟨w.heap.size + 1,6,none⟩ = some (.slice none 0 0):=fun o o' => (blk_cell (blk_alloc (blk_alloc xr2 o) o') 6).trans rfl
    have xf0 : ∀ o o',((w2.alloc o).alloc o').frozen? ⟨w.heap.size + 1,0,none⟩ = false:=fun o o' => blk_frozen (blk_alloc (blk_alloc xr2 o) o') 0
    have xf1 : ∀ o o',((w2.alloc o).alloc o').frozen? ⟨w.heap.size + 1,1,none⟩ = false:=fun o o' => blk_frozen (blk_alloc (blk_alloc xr2 o) o') 1
    have xf2 : ∀ o o',((w2.alloc o).alloc o').frozen? ⟨w.heap.size + 1,2,none⟩ = false:=fun o o' => blk_frozen (blk_alloc (blk_alloc xr2 o) o') 2
    have xf3 : ∀ o o',((w2.alloc o).alloc o').frozen? ⟨w.heap.size + 1,3,none⟩ = false:=fun o o' => blk_frozen (blk_alloc (blk_alloc xr2 o) o') 3
    have xf4 : ∀ o o',((w2.alloc o).alloc o').frozen? ⟨w.heap.size + 1,4,none⟩ = false:=fun o o' => blk_frozen (blk_alloc (blk_alloc xr2 o) o') 4
    have xf5 : ∀ o o',((w2.alloc o).alloc o').frozen? ⟨w.heap.size + 1,5,none⟩ = false:=fun o o' => blk_frozen (blk_alloc (blk_alloc xr2 o) o') 5
    have xf6 : ∀ o o',((w2.alloc o).alloc o').frozen? ⟨w.heap.size + 1,6,none⟩ = false:=fun o o' => blk_frozen (blk_alloc (blk_alloc xr2 o) o') 6
    have hz : Aside0 (past p l = ([],z24,false)):=⟨by unfold past; rw [hpast.out,hdr.out,pastS,hno.out,if_neg (by simp)]; rfl⟩
    go_wp2
    (try simp only [Exit.noGoto_ret,Exit.inBlock,Exit.then])
    refine bodyPost_ret (ret26 (gy:=w.heap.size + 1) (y0:=.int .i64 0) (y1:=.string ⟨#[]⟩) (y2:=.string ⟨#[]⟩) (y3:=.string ⟨#[]⟩) (y4:=.int .i64 0) (y5:=.slice none 0 0) (y6:=.slice none 0 0) rfl rfl rfl ?_) rfl ?_
    ·exact set7 ((blk_alloc (blk_alloc xr2 _) _)) rfl _ _ _ _ _ _ _
    ·unfold PastPost
     rw [hz.out]
     exact ⟨none,0,none,0,none,0,rfl,Kd.C_nil _ _,Nat.le_refl _,⟨Kd.C_nil _ _,Nat.le_refl _,Kd.C_nil _ _,Nat.le_refl _⟩,below7 ((hB2.out.alloc hB2.out.size _).alloc (by have:=hB2.out.size; simp; omega) _) (by omega) _ _ _ _ _ _ _⟩
   ·cases gk with
    | zero => have:=hk.out; omega
    | succ k1 =>
     obtain ⟨kb,ka⟩:=rule_keep hy.r
     have ra : Aside0 (Rd w a X5 x5 X6 x6):=⟨rx.out.of (by rw [ka]) (by rw [ka])⟩
     have rb : Aside0 (Rd w b C5 e5 C6 e6):=⟨rp'.out.of (by rw [kb]) (by rw [kb])⟩
     clear ka kb
     have hob : Okp b:=(okp_yes hy hp'.out hox).2
     have hcy:=Aside0.mk (comm_of hy)
     have hown : ∀ k,u7.ownBlock = some k → w.heap.size ≤ k ∧ k < wr.heap.size:=fun k hk => ⟨Kd.N_base hN.out k hk,Kd.N_lt hN.out k hk⟩
     have hon : ∀ k,(k < w.heap.size ∨ wr.heap.size ≤ k) → some k ≠ u7.ownBlock:=fun k hk he => by have:=hown k he.symm; omega
     have hBA : Aside0 (Below w.heap.size w ((w2.alloc (.cells #[.int .i64 a.f0,.string a.f1,.string a.f2,.string a.f3,.int .i64 a.f4,.slice X5 a.f5.length x5,.slice X6 a.f6.length x6] 24)).alloc (.cells #[.int .i64 b.f0,.string b.f1,.string b.f2,.string b.f3,.int .i64 b.f4,.slice C5 b.f5.length e5,.slice C6 b.f6.length e6] 24))):=⟨(hB2.out.alloc hB2.out.size _).alloc (by have:=hB2.out.size; simp; omega) _⟩
     have fkA : Aside0 (Kd.FK k24 ((w2.alloc (.cells #[.int .i64 a.f0,.string a.f1,.string a.f2,.string a.f3,.int .i64 a.f4,.slice X5 a.f5.length x5,.slice X6 a.f6.length x6] 24)).alloc (.cells #[.int .i64 b.f0,.string b.f1,.string b.f2,.string b.f3,.int .i64 b.f4,.slice C5 b.f5.length e5,.slice C6 b.f6.length e6] 24)) (fun k_ => k_ < w.heap.size) a [.int .i64 a.f0,.string a.f1,.string a.f2,.string a.f3,.int .i64 a.f4,.slice X5 a.f5.length x5,.slice X6 a.f6.length x6]):=⟨k24_mkF _ _ a ra.out.l5 (Kd.F_below (Kd.C_F Kd.heap_string ra.out.g5) hBA.out) ra.out.l6 (Kd.F_below (Kd.C_F Kd.heap_string ra.out.g6) hBA.out)⟩
     have hokA : Aside0 (∀ k,k < w.heap.size → (k ≠ w.heap.size ∧ k ≠ w.heap.size + 1) ∧ some k ≠ u7.ownBlock):=⟨fun k hk => ⟨⟨by omega,by omega⟩,hon k (.inl hk)⟩⟩
     have hfrA : Aside0 (∀ k,((w2.alloc (.cells #[.int .i64 a.f0,.string a.f1,.string a.f2,.string a.f3,.int .i64 a.f4,.slice X5 a.f5.length x5,.slice X6 a.f6.length x6] 24)).alloc (.cells #[.int .i64 b.f0,.string b.f1,.string b.f2,.string b.f3,.int .i64 b.f4,.slice C5 b.f5.length e5,.slice C6 b.f6.length e6] 24)).heap.size ≤ k → k ≠ w.heap.size ∧ k ≠ w.heap.size + 1):=⟨fun k hk => by have:=blk_lt xr2; simp at hk; omega⟩
     have hNA : Aside0 (Kd.N k24 24 ((w2.alloc (.cells #[.int .i64 a.f0,.string a.f1,.string a.f2,.string a.f3,.int .i64 a.f4,.slice X5 a.f5.length x5,.slice X6 a.f6.length x6] 24)).alloc (.cells #[.int .i64 b.f0,.string b.f1,.string b.f2,.string b.f3,.int .i64 b.f4,.slice C5 b.f5.length e5,.slice C6 b.f6.length e6] 24)) w.heap.size (fun k_ => k_ ≠ w.heap.size ∧ k_ ≠ w.heap.size + 1) u7 ys):=⟨Kd.N_alloc (Kd.N_alloc hN2.out _) _⟩
     have hSA : Aside0 (w.heap.size ≤ ((w2.alloc (.cells #[.int .i64 a.f0,.string a.f1,.string a.f2,.string a.f3,.int .i64 a.f4,.slice X5 a.f5.length x5,.slice X6 a.f6.length x6] 24)).alloc (.cells #[.int .i64 b.f0,.string b.f1,.string b.f2,.string b.f3,.int .i64 b.f4,.slice C5 b.f5.length e5,.slice C6 b.f6.length e6] 24)).heap.size):=⟨hBA.out.size⟩
     have hLA : Aside0 ((ys.length + 1) * 112 ≤ 140737488355328):=⟨by have:=hlen.out; omega⟩
     have n1 : some (w2.heap.size + 1) ≠ u7.ownBlock:=hon _ (.inr (by omega))
     have n2 : some w.heap.size ≠ u7.ownBlock:=Kd.N_away hN.out (fun k hk => hk.1)
     have n3 : some (w.heap.size + 1) ≠ u7.ownBlock:=Kd.N_away hN.out (fun k hk => hk.2)
     have xbA : Aside0 (∀ w3,((w2.alloc (.cells #[.int .i64 a.f0,.string a.f1,.string a.f2,.string a.f3,.int .i64 a.f4,.slice X5 a.f5.length x5,.slice X6 a.f6.length x6] 24)).alloc (.cells #[.int .i64 b.f0,.string b.f1,.string b.f2,.string b.f3,.int .i64 b.f4,.slice C5 b.f5.length e5,.slice C6 b.f6.length e6] 24)).grownBy w3 u7.ownBlock → w3.heap[w2.heap.size + 1]? = some (.cells #[.int .i64 b.f0,.string b.f1,.string b.f2,.string b.f3,.int .i64 b.f4,.slice C5 b.f5.length e5,.slice C6 b.f6.length e6] 24 (0,0))):=⟨fun w3 hg => (hg.block _ (by simp) n1).trans (box2 _ _ _)⟩
     have xpA : Aside0 (∀ w3,((w2.alloc (.cells #[.int .i64 a.f0,.string a.f1,.string a.f2,.string a.f3,.int .i64 a.f4,.slice X5 a.f5.length x5,.slice X6 a.f6.length x6] 24)).alloc (.cells #[.int .i64 b.f0,.string b.f1,.string b.f2,.string b.f3,.int .i64 b.f4,.slice C5 b.f5.length e5,.slice C6 b.f6.length e6] 24)).grownBy w3 u7.ownBlock → w3.heap[w.heap.size]? = some (.cells #[.int .i64 p'.f0,.string p'.f1,.string p'.f2,.string p'.f3,.int .i64 p'.f4,.slice C5 p'.f5.length e5,.slice C6 p'.f6.length e6] 24 (0,0))):=⟨fun w3 hg => (hg.block _ (by have:=blk_lt xp2; simp; omega) n2).trans (blk_alloc (blk_alloc xp2 _) _)⟩
     have xrA : Aside0 (∀ w3,((w2.alloc (.cells #[.int .i64 a.f0,.string a.f1,.string a.f2,.string a.f3,.int .i64 a.f4,.slice X5 a.f5.length x5,.slice X6 a.f6.length x6] 24)).alloc (.cells #[.int .i64 b.f0,.string b.f1,.string b.f2,.string b.f3,.int .i64 b.f4,.slice C5 b.f5.length e5,.slice C6 b.f6.length e6] 24)).grownBy w3 u7.ownBlock → w3.heap[w.heap.size + 1]? = some (.cells zeroC 24 (0,0))):=⟨fun w3 hg => (hg.block _ (by have:=blk_lt xr2; simp; omega) n3).trans (blk_alloc (blk_alloc xr2 _) _)⟩
     have hszT : Aside0 (((w2.alloc (.cells #[.int .i64 a.f0,.string a.f1,.string a.f2,.string a.f3,.int .i64 a.f4,.slice X5 a.f5.length x5,.slice X6 a.f6.length x6] 24)).alloc (.cells #[.int .i64 b.f0,.string b.f1,.string b.f2,.string b.f3,.int .i64 b.f4,.slice C5 b.f5.length e5,.slice C6 b.f6.length e6] 24)).heap.size = w2.heap.size + 1 + 1):=⟨by simp⟩
     have hyy:=Aside0.mk hy
     clear hy hown hon n1 n2 n3
     go_wp2_with (((with_reducible refine gate_builtin (b:=.append) (xs:=#[.tmp 29,.tmp 31]) rfl ?_); at_builtin; refine Kd.N_append k24 (w0:=w) w.heap.size rfl (.tmp 29) (.tmp 31) 25 24 (.agg #[(.int .i64 0),(.string ⟨#[]⟩),(.string ⟨#[]⟩),(.string ⟨#[]⟩),(.int .i64 0),(.slice none 0 0),(.slice none 0 0)]) 112 rfl Tryd.underlying25 infoQ rfl (by decide) (by omega) u7 ys a [.int .i64 a.f0,.string a.f1,.string a.f2,.string a.f3,.int .i64 a.f4,.slice X5 a.f5.length x5,.slice X6 a.f6.length x6] (fun k_ => k_ ≠ w.heap.size ∧ k_ ≠ w.heap.size + 1) (fun k_ => k_ < w.heap.size) rfl ?aX ?aP ?aH ?aF ?aO ?aB ?aS ?aL ?_; (case aX => exact congrArg (fun n => Value.slice (some ⟨n,0,none⟩) 1 1) hszT.out.symm); (case aP => exact fkA.out); (case aH => exact hokA.out); (case aF => exact hfrA.out); (case aO => exact hNA.out); (case aB => exact hBA.out); (case aS => exact hSA.out); (case aL => exact hLA.out); intro y1 w3 hN3 hB3 hg3 hat3; have xb3:=xbA.out _ hg3; have xp3:=xpA.out _ hg3; have xr3:=xrA.out _ hg3; have bc0 : w3.cell? ⟨w2.heap.size + 1,0,none⟩ = some (.int .i64 b.f0):=(blk_cell xb3 0).trans rfl; have bc1 : w3.cell? ⟨w2.heap.size + 1,1,none⟩ = some (.string b.f1):=(blk_cell xb3 1).trans rfl; have bc2 : w3.cell? ⟨w2.heap.size + 1,2,none⟩ = some (.string b.f2):=(blk_cell xb3 2).trans rfl; have bc3 : w3.cell? ⟨w2.heap.size + 1,3,none⟩ = some (.string b.f3):=(blk_cell xb3 3).trans rfl; have bc4 : w3.cell? ⟨w2.heap.size + 1,4,none⟩ = some (.int .i64 b.f4):=(blk_cell xb3 4).trans rfl; have bc5 : w3.cell? ⟨w2.heap.size + 1,5,none⟩ = some (.slice C5 b.f5.length e5):=(blk_cell xb3 5).trans rfl; have bc6 : w3.cell? ⟨w2.heap.size + 1,6,none⟩ = some (.slice C6 b.f6.length e6):=(blk_cell xb3 6).trans rfl; have pc0 : w3.cell? ⟨w.heap.size,0,none⟩ = some (.int .i64 p'.f0):=(blk_cell xp3 0).trans rfl; have pc1 : w3.cell? ⟨w.heap.size,1,none⟩ = some (.string p'.f1):=(blk_cell xp3 1).trans rfl; have pc2 : w3.cell? ⟨w.heap.size,2,none⟩ = some (.string p'.f2):=(blk_cell xp3 2).trans rfl; have pc3 : w3.cell? ⟨w.heap.size,3,none⟩ = some (.string p'.f3):=(blk_cell xp3 3).trans rfl; have pc4 : w3.cell? ⟨w.heap.size,4,none⟩ = some (.int .i64 p'.f4):=(blk_cell xp3 4).trans rfl; have pc5 : w3.cell? ⟨w.heap.size,5,none⟩ = some (.slice C5 p'.f5.length e5):=(blk_cell xp3 5).trans rfl; have pc6 : w3.cell? ⟨w.heap.size,6,none⟩ = some (.slice C6 p'.f6.length e6):=(blk_cell xp3 6).trans rfl; have pf0:=blk_frozen xp3 0; have pf1:=blk_frozen xp3 1; have pf2:=blk_frozen xp3 2; have pf3:=blk_frozen xp3 3; have pf4:=blk_frozen xp3 4; have pf5:=blk_frozen xp3 5; have pf6:=blk_frozen xp3 6))
     go_roundg k1
     case measure => omega
     case rel =>
      refine ⟨i + 1,ys ++ [a],b,C5,e5,C6,e6,?_,⟨by have:=hk.out; omega⟩,⟨?_⟩,⟨by have:=hlen.out; simp; omega⟩,⟨hob⟩,rb,⟨N_far7 hN3 (fun k hk => hk.1) _ _ _ _ _ _ _⟩,⟨set7 xp3 rfl _ _ _ _ _ _ _⟩,⟨(keep7 (by omega) _ _ _ _ _ _ _).trans xr3⟩,⟨below7 hB3 (Nat.le_refl _) _ _ _ _ _ _ _⟩⟩
      ·first | rfl | (rw [wrap_1 hi (by omega)])
      ·rw [hpast.out,hdr.out,pastS,hcy.out,if_pos rfl]
       cases pastS b (l.drop (i + 1)) with
       | none => rfl
       | some r => simp
  ·have c1b : decide ((i : Int) < (l.length : Int)) = false:=decide_eq_false (by omega)
   have pc0 : wr.cell? ⟨w.heap.size,0,none⟩ = some (.int .i64 p'.f0):=(blk_cell xp.out 0).trans rfl
   have pc1 : wr.cell? ⟨w.heap.size,1,none⟩ = some (.string p'.f1):=(blk_cell xp.out 1).trans rfl
   have pc2 : wr.cell? ⟨w.heap.size,2,none⟩ = some (.string p'.f2):=(blk_cell xp.out 2).trans rfl
   have pc3 : wr.cell? ⟨w.heap.size,3,none⟩ = some (.string p'.f3):=(blk_cell xp.out 3).trans rfl
   have pc4 : wr.cell? ⟨w.heap.size,4,none⟩ = some (.int .i64 p'.f4):=(blk_cell xp.out 4).trans rfl
   have pc5 : wr.cell? ⟨w.heap.size,5,none⟩ = some (.slice C5 p'.f5.length e5):=(blk_cell xp.out 5).trans rfl
   have pc6 : wr.cell? ⟨w.heap.size,6,none⟩ = some (.slice C6 p'.f6.length e6):=(blk_cell xp.out 6).trans rfl
   have xc0 : wr.cell? ⟨w.heap.size + 1,0,none⟩ = some (.int .i64 0):=(blk_cell xr.out 0).trans rfl
   have xc1 : wr.cell? ⟨w.heap.size + 1,1,none⟩ = some (.string ⟨#[]⟩):=(blk_cell xr.out 1).trans rfl
   have xc2 : wr.cell? ⟨w.heap.size + 1,2,none⟩ = some (.string ⟨#[]⟩):=(blk_cell xr.out 2).trans rfl
   have xc3 : wr.cell? ⟨w.heap.size + 1,3,none⟩ = some (.string ⟨#[]⟩):=(blk_cell xr.out 3).trans rfl
   have xc4 : wr.cell? ⟨w.heap.size + 1,4,none⟩ = some (.int .i64 0):=(blk_cell xr.out 4).trans rfl
   have xc5 : wr.cell? ⟨w.heap.size + 1,5,none⟩ = some (.slice none 0 0):=(blk_cell xr.out 5).trans rfl
   have xc6 : wr.cell? ⟨w.heap.size + 1,6,none⟩ = some (.slice none 0 0):=(blk_cell xr.out 6).trans rfl
   have xf0:=blk_frozen xr.out 0
   have xf1:=blk_frozen xr.out 1
   have xf2:=blk_frozen xr.out 2
   have xf3:=blk_frozen xr.out 3
   have xf4:=blk_frozen xr.out 4
   have xf5:=blk_frozen xr.out 5
   have xf6:=blk_frozen xr.out 6
   have hz : Aside0 (past p l = (ys,p',true)):=⟨by unfold past; rw [hpast.out,List.drop_of_length_le (by omega),pastS]; simp⟩
   obtain ⟨D,d,rfl,hd,hC⟩:=Kd.N_reads hN.out
   go_wp2
   all_goals go_region
   all_goals go_wp2
   all_goals
    refine bodyPost_ret (ret26 (gy:=w.heap.size + 1) (y0:=.int .i64 p'.f0) (y1:=.string p'.f1) (y2:=.string p'.f2) (y3:=.string p'.f3) (y4:=.int .i64 p'.f4) (y5:=.slice C5 p'.f5.length e5) (y6:=.slice C6 p'.f6.length e6) rfl rfl rfl ?_) rfl ?_
    ·exact drew_at (set7 xr.out rfl _ _ _ _ _ _ _)
    ·unfold PastPost
     rw [hz.out]
     have hbz:=Below.drew (below7 hB.out (g:=w.heap.size + 1) (by omega) (.int .i64 p'.f0) (.string p'.f1) (.string p'.f2) (.string p'.f3) (.int .i64 p'.f4) (.slice C5 p'.f5.length e5) (.slice C6 p'.f6.length e6))
     exact ⟨D,d,C5,e5,C6,e6,rfl,Kd.C_drew (C_far7 hN.out _ _ _ _ _ _ _),hd,rp'.out.below hbz,hbz⟩
end Go.Proofs.YthhohbidjhcjeaaDoor.H
