/- The statement CommutePast holds: whatever the input the law returns true, and the input reads behind the call as before; the listed tables are tied to the program's text. -/
import Derived.Test.YthhohbidjhcjeaaGreatDoorBWe
import Derived.Test.YthhohbidjhcjeaaGreatDoorBM8
import Derived.Test.YthhohbidjhcjeaaGreatDoorBY2
import Derived.Test.YthhohbidjhcjeaaGreatDoorRows
import Derived.Test.YthhohbidjhcjeaaGreatDoorCards
import Derived.Test.YthhohbidjhcjeaaGreatDoorTie
import Derived.WalkKit
import Derived.ProofKit
import Derived.OpenShut
import Derived.ShutString
import Derived.ChangeOld
import Derived.Below
import Derived.SizedLaws
import Derived.Lay
import Derived.LaidOnce
import Derived.LaidMore
import Derived.SevenTiedAt
namespace Go.Proofs.YthhohbidjhcjeaaGreatDoor.H
open Go.RowKit Go.Shelf Go.Proofs.YthhohbidjhcjeaaGreatDoorW.PrintWords Go.Proofs.YthhohbidjhcjeaaGreatDoorW.PrintLast Go.Proofs.YthhohbidjhcjeaaGreatDoorW.PrintMore
open Go.Proofs.YthhohbidjhcjeaaGreatDoor.Q Go.Proofs.YthhohbidjhcjeaaGreatDoor.Pl
set_option linter.unusedVariables false
set_option linter.unusedSimpArgs false
theorem lit2C {W : World} {g : Nat} {x y : S25} {A5 : Option Addr} {a5 : Nat} {A6 : Option Addr} {a6 : Nat} {B5 : Option Addr} {b5 : Nat} {B6 : Option Addr} {b6 : Nat}
  (hh : W.heap[g]? = some (.cells #[.int .i64 x.f0,.string x.f1,.string x.f2,.string x.f3,.int .i64 x.f4,.slice A5 x.f5.length a5,.slice A6 x.f6.length a6,.int .i64 y.f0,.string y.f1,.string y.f2,.string y.f3,.int .i64 y.f4,.slice B5 y.f5.length b5,.slice B6 y.f6.length b6] 25 (0,0)))
  (rx : Rd W x A5 a5 A6 a6) (ry : Rd W y B5 b5 B6 b6) : Kd.C k25 W (some ⟨g,0,none⟩) [x,y].length [x,y]:=by
 refine ⟨rfl,by show 2 ≤ _; decide,fun _ => ⟨⟨g,0,none⟩,rfl,?_⟩⟩
 intro j z hz
 have hj : j = 0 ∧ z = x ∨ j = 1 ∧ z = y:=by
  rcases j with _ | _ | j
  ·exact .inl ⟨rfl,by simpa using hz.symm⟩
  ·exact .inr ⟨rfl,by simpa using hz.symm⟩
  ·simp at hz
 have e : ∀ j i,(⟨g,0,none⟩ : Addr).add (j * k25.sz + i) = ⟨g,j * 7 + i,none⟩:=by
  intro j i
  show (⟨g,0,none⟩ : Addr).add (j * 7 + i) = _
  unfold Addr.add; split <;> simp_all
 rcases hj with ⟨rfl,rfl⟩ | ⟨rfl,rfl⟩
 ·refine ⟨[.int .i64 z.f0,.string z.f1,.string z.f2,.string z.f3,.int .i64 z.f4,.slice A5 z.f5.length a5,.slice A6 z.f6.length a6],rfl,k25_mk W z rx.l5 rx.g5 rx.l6 rx.g6,fun i u hu => ?_⟩
  rw [e,Lib.cell_of_heap hh]
  rcases i with _ | _ | _ | _ | _ | _ | _ | i <;> first | exact hu | (simp at hu)
 ·refine ⟨[.int .i64 z.f0,.string z.f1,.string z.f2,.string z.f3,.int .i64 z.f4,.slice B5 z.f5.length b5,.slice B6 z.f6.length b6],rfl,k25_mk W z ry.l5 ry.g5 ry.l6 ry.g6,fun i u hu => ?_⟩
  rw [e,Lib.cell_of_heap hh]
  rcases i with _ | _ | _ | _ | _ | _ | _ | i <;> first | exact hu | (simp at hu)
theorem small_yes {p q a b : S25} (hy : Yes p q a b) (sp : SmallQ p) (sq : SmallQ q) : SmallQ a ∧ SmallQ b:=by
 obtain ⟨eb,ea⟩:=rule_keep hy.r
 have h:=rule_f1 hy.hp hy.hq
 rw [hy.r] at h
 have h1 : b.f1.size ≤ 272:=h.1
 have h2 : a.f1.size ≤ 272:=h.2
 refine ⟨⟨by omega,?_,?_,?_,?_,?_,?_⟩,⟨by omega,?_,?_,?_,?_,?_,?_⟩⟩
 ·rw [ea]; exact sq.f2
 ·rw [ea]; exact sq.f3
 ·rw [ea]; exact sq.n5
 ·rw [ea]; exact sq.n6
 ·rw [ea]; exact sq.s5
 ·rw [ea]; exact sq.s6
 ·rw [eb]; exact sp.f2
 ·rw [eb]; exact sp.f3
 ·rw [eb]; exact sp.n5
 ·rw [eb]; exact sp.n6
 ·rw [eb]; exact sp.s5
 ·rw [eb]; exact sp.s6
set_option maxHeartbeats 4000000 in
set_option maxRecDepth 1000000 in
theorem ctree_calls (l : List S41) (A : Option Addr) (c : Nat) (p : S25) (A5 : Option Addr) (a5 : Nat) (A6 : Option Addr) (a6 : Nat) (q : S25) (B5 : Option Addr) (b5 : Nat) (B6 : Option Addr) (b6 : Nat) (w : World) (hr : Kd.C k41 w A l.length l) (hc : l.length ≤ c) (hn : l.length ≤ 140737488355328) (hx : ∀ x ∈ l,x.f2.length ≤ 140737488355328) (hp : Okp p) (rp : Rd w p A5 a5 A6 a6) (hq : Okp q) (rq : Rd w q B5 b5 B6 b6) :
  Calls Tryz.prog 12 #[.slice A l.length c,.agg #[.int .i64 p.f0,.string p.f1,.string p.f2,.string p.f3,.int .i64 p.f4,.slice A5 p.f5.length a5,.slice A6 p.f6.length a6],.agg #[.int .i64 q.f0,.string q.f1,.string q.f2,.string q.f3,.int .i64 q.f4,.slice B5 q.f5.length b5,.slice B6 q.f6.length b6]] w fun e w' => e = .returned (.bool true) ∧ Below w.heap.size w w':=by
 obtain ⟨g,hgs,hG⟩:=G_at l A c w hr hc hn hx
 obtain ⟨k,hks,hK⟩:=K_at p A5 a5 A6 a6 w hp rp
 obtain ⟨k2,hks2,hK2⟩:=K_at q B5 b5 B6 b6 w hq rq
 replace hG:=Aside0.mk hG
 replace hK:=Aside0.mk hK
 replace hK2:=Aside0.mk hK2
 replace hgs:=Aside0.mk hgs
 replace hks:=Aside0.mk hks
 replace hks2:=Aside0.mk hks2
 replace hn:=Aside0.mk hn
 replace hx:=Aside0.mk hx
 replace hr:=Aside0.mk hr
 replace hc:=Aside0.mk hc
 replace hp:=Aside0.mk hp
 replace rp:=Aside0.mk rp
 replace hq:=Aside0.mk hq
 replace rq:=Aside0.mk rq
 go_enter Tryz.func12,Tryz.ntmps12
 go_wp2_with (fail)
 refine (head10_calls _).mono ?_
 rintro e w1 ⟨rfl,hb1⟩
 have hs1 : Below w.heap.size w w1:=two_steps (by repeat (first | exact Below.refl _ _ | refine Below.setCell ?_ (by simp <;> omega) _ | refine Below.alloc ?_ (by simp <;> omega) _ | refine Below.drew ?_)) hb1
 have hw1 : Below w.heap.size w w1:=(Below.refl w.heap.size w).trans (hs1.mono (Below.refl w.heap.size w).size)
 have xp : w1.heap[w.heap.size]? = some (.cells #[.int .i64 p.f0,.string p.f1,.string p.f2,.string p.f3,.int .i64 p.f4,.slice A5 p.f5.length a5,.slice A6 p.f6.length a6] 25 (0,0)):=blk_below (box1 w _ _) hb1
 have xq : w1.heap[w.heap.size + 1]? = some (.cells #[.int .i64 q.f0,.string q.f1,.string q.f2,.string q.f3,.int .i64 q.f4,.slice B5 q.f5.length b5,.slice B6 q.f6.length b6] 25 (0,0)):=blk_below (box2 w _ _) hb1
 clear hb1
 obtain ⟨pc0,pc1,pc2,pc3,pc4,pc5,pc6⟩:=cells7 xp
 obtain ⟨qc0,qc1,qc2,qc3,qc4,qc5,qc6⟩:=cells7 xq
 go_wp2_with (fail)
 refine (hG.out _ (by repeat (first | with_reducible exact hw1 | refine Below.setCell ?_ (by have:=hw1.size; simp <;> omega) _ | refine Below.alloc ?_ (by have:=hw1.size; simp <;> omega) _ | refine Below.drew ?_))).mono ?_
 rintro e w2 ⟨rfl,hb2⟩
 clear pc0 pc1 pc2 pc3 pc4 pc5 pc6 qc0 qc1 qc2 qc3 qc4 qc5 qc6
 have hs2 : Below w1.heap.size w1 w2:=two_steps (by repeat (first | exact Below.refl _ _ | refine Below.setCell ?_ (by simp <;> omega) _ | refine Below.alloc ?_ (by simp <;> omega) _ | refine Below.drew ?_)) hb2
 have hw2 : Below w.heap.size w w2:=hw1.trans (hs2.mono hw1.size)
 have xp:=blk_below xp hs2
 have xq:=blk_below xq hs2
 clear hb2
 obtain ⟨pc0,pc1,pc2,pc3,pc4,pc5,pc6⟩:=cells7 xp
 obtain ⟨qc0,qc1,qc2,qc3,qc4,qc5,qc6⟩:=cells7 xq
 cases g with
 | true =>
  go_wp2
  go_ret
  exact ⟨rfl,(by repeat (first | with_reducible exact hw2 | refine Below.setCell ?_ (by have:=hw2.size; simp <;> omega) _ | refine Below.alloc ?_ (by have:=hw2.size; simp <;> omega) _ | refine Below.drew ?_))⟩
 | false =>
  go_wp2_with (fail)
  refine (hK.out _ (by repeat (first | with_reducible exact hw2 | refine Below.setCell ?_ (by have:=hw2.size; simp <;> omega) _ | refine Below.alloc ?_ (by have:=hw2.size; simp <;> omega) _ | refine Below.drew ?_))).mono ?_
  rintro e w3 ⟨rfl,hb3⟩
  clear pc0 pc1 pc2 pc3 pc4 pc5 pc6 qc0 qc1 qc2 qc3 qc4 qc5 qc6
  have hs3 : Below w2.heap.size w2 w3:=two_steps (by repeat (first | exact Below.refl _ _ | refine Below.setCell ?_ (by simp <;> omega) _ | refine Below.alloc ?_ (by simp <;> omega) _ | refine Below.drew ?_)) hb3
  have hw3 : Below w.heap.size w w3:=hw2.trans (hs3.mono hw2.size)
  have xp:=blk_below xp hs3
  have xq:=blk_below xq hs3
  clear hb3
  obtain ⟨pc0,pc1,pc2,pc3,pc4,pc5,pc6⟩:=cells7 xp
  obtain ⟨qc0,qc1,qc2,qc3,qc4,qc5,qc6⟩:=cells7 xq
  cases k with
  | true =>
   go_wp2
   go_ret
   exact ⟨rfl,(by repeat (first | with_reducible exact hw3 | refine Below.setCell ?_ (by have:=hw3.size; simp <;> omega) _ | refine Below.alloc ?_ (by have:=hw3.size; simp <;> omega) _ | refine Below.drew ?_))⟩
  | false =>
   go_wp2_with (fail)
   refine (hK2.out _ (by repeat (first | with_reducible exact hw3 | refine Below.setCell ?_ (by have:=hw3.size; simp <;> omega) _ | refine Below.alloc ?_ (by have:=hw3.size; simp <;> omega) _ | refine Below.drew ?_))).mono ?_
   rintro e w4 ⟨rfl,hb4⟩
   clear pc0 pc1 pc2 pc3 pc4 pc5 pc6 qc0 qc1 qc2 qc3 qc4 qc5 qc6
   have hs4 : Below w3.heap.size w3 w4:=two_steps (by repeat (first | exact Below.refl _ _ | refine Below.setCell ?_ (by simp <;> omega) _ | refine Below.alloc ?_ (by simp <;> omega) _ | refine Below.drew ?_)) hb4
   have hw4 : Below w.heap.size w w4:=hw3.trans (hs4.mono hw3.size)
   have xp:=blk_below xp hs4
   have xq:=blk_below xq hs4
   clear hb4
   obtain ⟨pc0,pc1,pc2,pc3,pc4,pc5,pc6⟩:=cells7 xp
   obtain ⟨qc0,qc1,qc2,qc3,qc4,qc5,qc6⟩:=cells7 xq
   cases k2 with
   | true =>
    go_wp2
    go_ret
    exact ⟨rfl,(by repeat (first | with_reducible exact hw4 | refine Below.setCell ?_ (by have:=hw4.size; simp <;> omega) _ | refine Below.alloc ?_ (by have:=hw4.size; simp <;> omega) _ | refine Below.drew ?_))⟩
   | false =>
    have hsm:=Aside0.mk (hgs.out (by trivial))
    have hsp:=Aside0.mk (smallq (hks.out (by trivial)))
    have hsq:=Aside0.mk (smallq (hks2.out (by trivial)))
    have hq2 : Aside0 (∀ z ∈ [p,q],SmallQ z):=⟨fun z hz => by rcases List.mem_cons.1 hz with h | hz; exact h ▸ hsp.out; rw [List.mem_singleton.1 hz]; exact hsq.out⟩
    have hor:=allE_or l [p,q]
    obtain ⟨R,hR⟩ : ∃ R,allE l [p,q] = R:=⟨_,rfl⟩
    obtain ⟨T,hT⟩ : ∃ T,T = w4.alloc (.cells #[.int .i64 p.f0,.string p.f1,.string p.f2,.string p.f3,.int .i64 p.f4,.slice A5 p.f5.length a5,.slice A6 p.f6.length a6,.int .i64 q.f0,.string q.f1,.string q.f2,.string q.f3,.int .i64 q.f4,.slice B5 q.f5.length b5,.slice B6 q.f6.length b6] 25):=⟨_,rfl⟩
    have hBT : Below w4.heap.size w4 T:=by rw [hT]; exact below_alloc (Below.refl _ _) _
    have hwT : Below w.heap.size w T:=hw4.trans (hBT.mono hw4.size)
    have hA:=L_at 4000 l A c [p,q] (some ⟨w4.heap.size,0,none⟩) 2 T (Kd.C_below hr.out hwT) (lit2C (by rw [hT]; exact blk_new _ _) (rp.out.below hwT) (rq.out.below hwT)) (small_bnd hsm.out.2) (by decide) (by show 2 ≤ _; decide) hq2.out T (Below.refl _ _)
    rw [hR] at hA hor
    obtain ⟨M,E,Jx⟩:=R
    dsimp only at hA
    replace hA:=Aside0.mk hA
    replace hor:=Aside0.mk hor
    replace hBT:=Aside0.mk hBT
    clear hR hwT
    go_wp2_with (fail)
    rw [← hT]
    clear hT
    refine hA.out.mono ?_
    rintro e w5 ⟨S,rfl,hb5,hS,hSn⟩
    clear pc0 pc1 pc2 pc3 pc4 pc5 pc6 qc0 qc1 qc2 qc3 qc4 qc5 qc6
    have hs5 : Below w4.heap.size w4 w5:=hBT.out.trans (hb5.mono hBT.out.size)
    have hw5 : Below w.heap.size w w5:=hw4.trans (hs5.mono hw4.size)
    have xp:=blk_below xp hs5
    have xq:=blk_below xq hs5
    replace hS:=Aside0.mk hS
    replace hSn:=Aside0.mk hSn
    clear hb5 hA hBT
    obtain ⟨pc0,pc1,pc2,pc3,pc4,pc5,pc6⟩:=cells7 xp
    obtain ⟨qc0,qc1,qc2,qc3,qc4,qc5,qc6⟩:=cells7 xq
    by_cases hz : E = 0
    ·subst hz
     obtain ⟨A4,c4,rfl,hl4,hC4⟩:=hS.out (by trivial)
     clear hS hSn
     replace hC4:=Aside0.mk hC4
     replace hl4:=Aside0.mk hl4
     have wM:=w5
     have hrun : Aside0 (treeB l = true ∧ runV l [p,q] = some M):=⟨by
      rcases hor.out with ⟨k,h1,h2,h3⟩ | ⟨e,j,h1,h2,_⟩
      ·simp only [Prod.mk.injEq] at h3; rw [h3.1]; exact ⟨h1,h2⟩
      ·simp only [Prod.mk.injEq] at h2; exact absurd h2.2.1.symm h1⟩
     go_wp2_with (fail)
     refine (comm_at p q A5 a5 A6 a6 B5 b5 B6 b6 _ hp.out hq.out (rp.out.below (by repeat (first | with_reducible exact hw5 | refine Below.setCell ?_ (by have:=hw5.size; simp <;> omega) _ | refine Below.alloc ?_ (by have:=hw5.size; simp <;> omega) _ | refine Below.drew ?_))) (rq.out.below (by repeat (first | with_reducible exact hw5 | refine Below.setCell ?_ (by have:=hw5.size; simp <;> omega) _ | refine Below.alloc ?_ (by have:=hw5.size; simp <;> omega) _ | refine Below.drew ?_)))).mono ?_
     rintro e w6 ⟨h4,hb6⟩
     clear pc0 pc1 pc2 pc3 pc4 pc5 pc6 qc0 qc1 qc2 qc3 qc4 qc5 qc6
     have hs6 : Below w5.heap.size w5 w6:=two_steps (by repeat (first | exact Below.refl _ _ | refine Below.setCell ?_ (by simp <;> omega) _ | refine Below.alloc ?_ (by simp <;> omega) _ | refine Below.drew ?_)) hb6
     have hw6 : Below w.heap.size w w6:=hw5.trans (hs6.mono hw5.size)
     have xp:=blk_below xp hs6
     have xq:=blk_below xq hs6
     clear hb6
     obtain ⟨pc0,pc1,pc2,pc3,pc4,pc5,pc6⟩:=cells7 xp
     obtain ⟨qc0,qc1,qc2,qc3,qc4,qc5,qc6⟩:=cells7 xq
     rcases h4 with ⟨-,rfl⟩ | ⟨a,b,hy,rfl⟩
     ·skip
      go_wp2
      go_ret
      exact ⟨rfl,(by repeat (first | with_reducible exact hw6 | refine Below.setCell ?_ (by have:=hw6.size; simp <;> omega) _ | refine Below.alloc ?_ (by have:=hw6.size; simp <;> omega) _ | refine Below.drew ?_))⟩
     ·skip
      have hsab:=Aside0.mk (small_yes hy hsp.out hsq.out)
      have hq3 : Aside0 (∀ z ∈ [a,b],SmallQ z):=⟨fun z hz => by rcases List.mem_cons.1 hz with h | hz; exact h ▸ hsab.out.1; rw [List.mem_singleton.1 hz]; exact hsab.out.2⟩
      have hsw : Aside0 (runV l [a,b] = some M):=⟨by rcases swap_two hy hp.out hq.out hrun.out.2 with h | ⟨_,h⟩; exact h; have:=hsm.out.1; omega⟩
      have hres:=Aside0.mk (allE_run hrun.out.1 hsw.out)
      obtain ⟨kb,ka⟩:=rule_keep hy.r
      have ra:=Rd.of (rq.out.below hw6) (y:=a) (by rw [ka]) (by rw [ka])
      have rb:=Rd.of (rp.out.below hw6) (y:=b) (by rw [kb]) (by rw [kb])
      clear ka kb
      obtain ⟨T,hT⟩ : ∃ T,T = ((w6.alloc (.cells #[.int .i64 a.f0,.string a.f1,.string a.f2,.string a.f3,.int .i64 a.f4,.slice B5 a.f5.length b5,.slice B6 a.f6.length b6] 25)).alloc (.cells #[.int .i64 b.f0,.string b.f1,.string b.f2,.string b.f3,.int .i64 b.f4,.slice A5 b.f5.length a5,.slice A6 b.f6.length a6] 25)).alloc (.cells #[.int .i64 a.f0,.string a.f1,.string a.f2,.string a.f3,.int .i64 a.f4,.slice B5 a.f5.length b5,.slice B6 a.f6.length b6,.int .i64 b.f0,.string b.f1,.string b.f2,.string b.f3,.int .i64 b.f4,.slice A5 b.f5.length a5,.slice A6 b.f6.length a6] 25):=⟨_,rfl⟩
      have hBT : Below w6.heap.size w6 T:=by rw [hT]; exact ((below_alloc (Below.refl _ _) _).alloc (by simp) _).alloc (by simp; omega) _
      have hwT : Below w.heap.size w T:=hw6.trans (hBT.mono hw6.size)
      have hbl : T.heap[w6.heap.size + 1 + 1]? = some (.cells #[.int .i64 a.f0,.string a.f1,.string a.f2,.string a.f3,.int .i64 a.f4,.slice B5 a.f5.length b5,.slice B6 a.f6.length b6,.int .i64 b.f0,.string b.f1,.string b.f2,.string b.f3,.int .i64 b.f4,.slice A5 b.f5.length a5,.slice A6 b.f6.length a6] 25 (0,0)):=by
       rw [hT]
       have h:=blk_new ((w6.alloc (.cells #[.int .i64 a.f0,.string a.f1,.string a.f2,.string a.f3,.int .i64 a.f4,.slice B5 a.f5.length b5,.slice B6 a.f6.length b6] 25)).alloc (.cells #[.int .i64 b.f0,.string b.f1,.string b.f2,.string b.f3,.int .i64 b.f4,.slice A5 b.f5.length a5,.slice A6 b.f6.length a6] 25)) (.cells #[.int .i64 a.f0,.string a.f1,.string a.f2,.string a.f3,.int .i64 a.f4,.slice B5 a.f5.length b5,.slice B6 a.f6.length b6,.int .i64 b.f0,.string b.f1,.string b.f2,.string b.f3,.int .i64 b.f4,.slice A5 b.f5.length a5,.slice A6 b.f6.length a6] 25)
       simpa using h
      have hA:=L_at 4000 l A c [a,b] (some ⟨w6.heap.size + 1 + 1,0,none⟩) 2 T (Kd.C_below hr.out hwT) (lit2C hbl (ra.below hBT) (rb.below hBT)) (small_bnd hsm.out.2) (by decide) (by show 2 ≤ _; decide) hq3.out T (Below.refl _ _)
      rw [hres.out] at hA
      dsimp only at hA
      have hC5:=Aside0.mk (Kd.C_below hC4.out (hs6.trans (hBT.mono hs6.size)))
      have hM : Aside0 (M.length ≤ 1024 ∧ ∀ x ∈ M,x.f2.length ≤ 140737488355328):=⟨(run_tree _ _ _ (tree_iff.1 hrun.out.1) hrun.out.2).n,fun x hx => Nat.le_trans ((bnd_run _ 4000 l M (small_bnd hsm.out.2) hq2.out hrun.out.2).n x hx) (by show 4000 + 4000 * 2 ≤ _; decide)⟩
      replace hA:=Aside0.mk hA
      replace hBT:=Aside0.mk hBT
      clear ra rb hbl hy hwT
      go_wp2_with (fail)
      rw [← hT]
      clear hT
      refine hA.out.mono ?_
      rintro e w7 ⟨S,rfl,hb7,hS,-⟩
      obtain ⟨A7,c7,rfl,hl7,hC7⟩:=hS (by trivial)
      clear hS pc0 pc1 pc2 pc3 pc4 pc5 pc6 qc0 qc1 qc2 qc3 qc4 qc5 qc6
      replace hC7:=Aside0.mk hC7
      replace hl7:=Aside0.mk hl7
      have hs7 : Below w6.heap.size w6 w7:=hBT.out.trans (hb7.mono hBT.out.size)
      have hw7 : Below w.heap.size w w7:=hw6.trans (hs7.mono hw6.size)
      have hC8:=Aside0.mk (Kd.C_below hC5.out hb7)
      clear hb7 hA hBT
      go_wp2_with (fail)
      refine (sameE_at M (Nat.le_trans hM.out.1 (by decide)) hM.out.2 A4 c4 A7 c7 _ hC8.out hl4.out hC7.out hl7.out).mono ?_
      rintro e w8 ⟨rfl,hb8⟩
      have hs8 : Below w7.heap.size w7 w8:=two_steps (by repeat (first | exact Below.refl _ _ | refine Below.setCell ?_ (by simp <;> omega) _ | refine Below.alloc ?_ (by simp <;> omega) _ | refine Below.drew ?_)) hb8
      have hw8 : Below w.heap.size w w8:=hw7.trans (hs8.mono hw7.size)
      clear hb8
      go_wp2
      go_ret
      exact ⟨rfl,(by repeat (first | with_reducible exact hw8 | refine Below.setCell ?_ (by have:=hw8.size; simp <;> omega) _ | refine Below.alloc ?_ (by have:=hw8.size; simp <;> omega) _ | refine Below.drew ?_))⟩
    ·skip
     have hne : (E != 0) = true:=by rw [bne_iff_ne]; exact hz
     have hne2 : (E == 0) = false:=by rw [beq_eq_false_iff_ne]; exact hz
     have hS':=hSn.out hz
     subst hS'
     clear hz hS hSn
     go_wp2_with (fail)
     refine (comm_at p q A5 a5 A6 a6 B5 b5 B6 b6 _ hp.out hq.out (rp.out.below (by repeat (first | with_reducible exact hw5 | refine Below.setCell ?_ (by have:=hw5.size; simp <;> omega) _ | refine Below.alloc ?_ (by have:=hw5.size; simp <;> omega) _ | refine Below.drew ?_))) (rq.out.below (by repeat (first | with_reducible exact hw5 | refine Below.setCell ?_ (by have:=hw5.size; simp <;> omega) _ | refine Below.alloc ?_ (by have:=hw5.size; simp <;> omega) _ | refine Below.drew ?_)))).mono ?_
     rintro e w6 ⟨h4,hb6⟩
     clear pc0 pc1 pc2 pc3 pc4 pc5 pc6 qc0 qc1 qc2 qc3 qc4 qc5 qc6
     have hs6 : Below w5.heap.size w5 w6:=two_steps (by repeat (first | exact Below.refl _ _ | refine Below.setCell ?_ (by simp <;> omega) _ | refine Below.alloc ?_ (by simp <;> omega) _ | refine Below.drew ?_)) hb6
     have hw6 : Below w.heap.size w w6:=hw5.trans (hs6.mono hw5.size)
     have xp:=blk_below xp hs6
     have xq:=blk_below xq hs6
     clear hb6
     obtain ⟨pc0,pc1,pc2,pc3,pc4,pc5,pc6⟩:=cells7 xp
     obtain ⟨qc0,qc1,qc2,qc3,qc4,qc5,qc6⟩:=cells7 xq
     rcases h4 with ⟨-,rfl⟩ | ⟨a,b,hy,rfl⟩
     ·skip
      go_wp2
      go_ret
      exact ⟨rfl,(by repeat (first | with_reducible exact hw6 | refine Below.setCell ?_ (by have:=hw6.size; simp <;> omega) _ | refine Below.alloc ?_ (by have:=hw6.size; simp <;> omega) _ | refine Below.drew ?_))⟩
     ·skip
      go_wp2
      go_ret
      exact ⟨rfl,(by repeat (first | with_reducible exact hw6 | refine Below.setCell ?_ (by have:=hw6.size; simp <;> omega) _ | refine Below.alloc ?_ (by have:=hw6.size; simp <;> omega) _ | refine Below.drew ?_))⟩
end Go.Proofs.YthhohbidjhcjeaaGreatDoor.H
namespace Go.Proofs.YthhohbidjhcjeaaGreatDoor.H
open Go.RowKit Go.Shelf Go.Proofs.YthhohbidjhcjeaaGreatDoorW.PrintWords Go.Proofs.YthhohbidjhcjeaaGreatDoorW.PrintLast Go.Proofs.YthhohbidjhcjeaaGreatDoorW.PrintMore
open Go.Proofs.YthhohbidjhcjeaaGreatDoor.Q Go.Proofs.YthhohbidjhcjeaaGreatDoor.Pl
set_option linter.unusedVariables false
set_option linter.unusedSimpArgs false
theorem infoP7 : (Tryz.prog.info? 25).map (fun i => (i.zero,i.size,i.bytes)) = some (some (.agg #[(.int .i64 0),(.string ⟨#[]⟩),(.string ⟨#[]⟩),(.string ⟨#[]⟩),(.int .i64 0),(.slice none 0 0),(.slice none 0 0)]),7,112):=by kernel_rfl
theorem lit0N (w : World) : Kd.N k25 25 (w.alloc (.cells #[] 25)) w.heap.size (fun _ => True) (.slice (some ⟨w.heap.size,0,none⟩) 0 0) []:=by
 have hr : Reps (fun x c => Kd.FK k25 w (fun _ => False) x c) k25.sz [] []:=Reps.none _ _
 have ho : Kd.NN k25 25 (w.alloc (.cells #[] 25)) w.heap.size (fun _ => False) (.slice (some ⟨w.heap.size,0,none⟩) 0 0) [] :=
  OwnRow.lit w w.heap.size (hr.imp_ (fun _ _ h => Kd.FK_below h (below_alloc (Below.refl _ _) _))) (Nat.le_refl _) (by simp)
 exact Kd.N_mono (Kd.NN_N ho (fun _ h => h.elim)) (fun _ _ => trivial)
theorem lit1N (w : World) (x : S25) (c : List Value) (h : Kd.FK k25 w (fun k => k < w.heap.size) x c) : Kd.N k25 25 (w.alloc (.cells c.toArray 25)) w.heap.size (fun _ => True) (.slice (some ⟨w.heap.size,0,none⟩) 1 1) [x]:=by
 have hr : Reps (fun x c => Kd.FK k25 w (fun k => k < w.heap.size) x c) k25.sz [x] ([] ++ c):=(Reps.none _ _).snoc h (Kd.FK_raw h).2.1
 have ho : Kd.NN k25 25 (w.alloc (.cells ([] ++ c).toArray 25)) w.heap.size (fun k => k < w.heap.size) (.slice (some ⟨w.heap.size,0,none⟩) 1 1) [x] :=
  OwnRow.lit w w.heap.size (hr.imp_ (fun _ _ h => Kd.FK_below h (below_alloc (Below.refl _ _) _))) (Nat.le_refl _) (by simp)
 exact Kd.N_mono (Kd.NN_N ho (fun _ h => h)) (fun _ _ => trivial)
theorem rd_FK {w : World} {x : S25} {A5 : Option Addr} {a5 : Nat} {A6 : Option Addr} {a6 : Nat} (h : Rd w x A5 a5 A6 a6) : Kd.FK k25 w (fun k => k < w.heap.size) x [.int .i64 x.f0,.string x.f1,.string x.f2,.string x.f3,.int .i64 x.f4,.slice A5 x.f5.length a5,.slice A6 x.f6.length a6] :=
 k25_mkF w _ x h.l5 (Kd.C_F Kd.heap_string h.g5) h.l6 (Kd.C_F Kd.heap_string h.g6)
theorem pastS_len : ∀ (ps : List S25) (p : S25) (ds : List S25) (b : S25),pastS p ps = some (ds,b) → ds.length = ps.length
 | [],p,ds,b,h => by cases h; rfl
 | q :: qs,p,ds,b,h => by
  rcases comm_or p q with e | ⟨x,y,hy,e⟩
  ·unfold pastS at h
   rw [e] at h
   cases h
  ·unfold pastS at h
   rw [e] at h
   obtain ⟨⟨ds',b'⟩,hs',hz⟩:=Option.map_eq_some_iff.mp (show (pastS y qs).map (fun z => (x :: z.1,z.2)) = some (ds,b) from h)
   simp only [Prod.mk.injEq] at hz
   obtain ⟨rfl,rfl⟩:=hz
   rw [List.length_cons,List.length_cons,pastS_len qs y ds' b' hs']
theorem past_small : ∀ (ps : List S25) (p : S25) (ds : List S25) (b : S25),pastS p ps = some (ds,b) → (∀ x ∈ ps,SmallQ x) → SmallQ p → (∀ x ∈ ds,SmallQ x) ∧ SmallQ b
 | [],p,ds,b,h,hq,hp => by cases h; exact ⟨hq,hp⟩
 | q :: qs,p,ds,b,h,hq,hp => by
  rcases comm_or p q with e | ⟨x,y,hy,e⟩
  ·unfold pastS at h
   rw [e] at h
   cases h
  ·unfold pastS at h
   rw [e] at h
   obtain ⟨⟨ds',b'⟩,hs',hz⟩:=Option.map_eq_some_iff.mp (show (pastS y qs).map (fun z => (x :: z.1,z.2)) = some (ds,b) from h)
   simp only [Prod.mk.injEq] at hz
   obtain ⟨rfl,rfl⟩:=hz
   obtain ⟨sx,sy⟩:=small_yes hy hp (hq q (List.mem_cons_self ..))
   obtain ⟨r1,r2⟩:=past_small qs y ds' b' hs' (fun z hz => hq z (List.mem_cons_of_mem _ hz)) sy
   refine ⟨fun z hz => ?_,r2⟩
   rcases List.mem_cons.1 hz with e | hz
   ·rw [e]; exact sx
   ·exact r1 z hz
set_option maxHeartbeats 4000000 in
set_option maxRecDepth 1000000 in
theorem cpast_calls (l : List S41) (A : Option Addr) (c : Nat) (p : S25) (A5 : Option Addr) (a5 : Nat) (A6 : Option Addr) (a6 : Nat) (ps : List S25) (P : Option Addr) (d : Nat) (w : World) (hr : Kd.C k41 w A l.length l) (hc : l.length ≤ c) (hn : l.length ≤ 140737488355328) (hx : ∀ x ∈ l,x.f2.length ≤ 140737488355328) (hp : Okp p) (rp : Rd w p A5 a5 A6 a6) (hps : Kd.C k25 w P ps.length ps) (hd : ps.length ≤ d) (hm : ps.length ≤ 1256584717458) (ho : ∀ p ∈ ps,Okp p) :
  Calls Tryz.prog 13 #[.slice A l.length c,.agg #[.int .i64 p.f0,.string p.f1,.string p.f2,.string p.f3,.int .i64 p.f4,.slice A5 p.f5.length a5,.slice A6 p.f6.length a6],.slice P ps.length d] w fun e w' => e = .returned (.bool true) ∧ Below w.heap.size w w':=by
 obtain ⟨g,hgs,hG⟩:=G_at l A c w hr hc hn hx
 obtain ⟨k,hks,hK⟩:=K_at p A5 a5 A6 a6 w hp rp
 obtain ⟨k2,hks2,hK2⟩:=GL_at ps P d w hps hd hm ho
 replace hG:=Aside0.mk hG
 replace hK:=Aside0.mk hK
 replace hK2:=Aside0.mk hK2
 replace hgs:=Aside0.mk hgs
 replace hks:=Aside0.mk hks
 replace hks2:=Aside0.mk hks2
 replace hn:=Aside0.mk hn
 replace hx:=Aside0.mk hx
 replace hr:=Aside0.mk hr
 replace hc:=Aside0.mk hc
 replace hp:=Aside0.mk hp
 replace rp:=Aside0.mk rp
 replace hps:=Aside0.mk hps
 replace hd:=Aside0.mk hd
 replace hm:=Aside0.mk hm
 replace ho:=Aside0.mk ho
 go_enter Tryz.func13,Tryz.ntmps13
 go_wp2_with (fail)
 refine (head10_calls _).mono ?_
 rintro e w1 ⟨rfl,hb1⟩
 have hs1 : Below w.heap.size w w1:=two_steps (by repeat (first | exact Below.refl _ _ | refine Below.setCell ?_ (by simp <;> omega) _ | refine Below.alloc ?_ (by simp <;> omega) _ | refine Below.drew ?_)) hb1
 have hw1 : Below w.heap.size w w1:=(Below.refl w.heap.size w).trans (hs1.mono (Below.refl w.heap.size w).size)
 have xp : w1.heap[w.heap.size]? = some (.cells #[.int .i64 p.f0,.string p.f1,.string p.f2,.string p.f3,.int .i64 p.f4,.slice A5 p.f5.length a5,.slice A6 p.f6.length a6] 25 (0,0)):=blk_below (blk_new w _) hb1
 clear hb1
 obtain ⟨pc0,pc1,pc2,pc3,pc4,pc5,pc6⟩:=cells7 xp
 go_wp2_with (fail)
 refine (hG.out _ (by repeat (first | with_reducible exact hw1 | refine Below.setCell ?_ (by have:=hw1.size; simp <;> omega) _ | refine Below.alloc ?_ (by have:=hw1.size; simp <;> omega) _ | refine Below.drew ?_))).mono ?_
 rintro e w2 ⟨rfl,hb2⟩
 clear pc0 pc1 pc2 pc3 pc4 pc5 pc6
 have hs2 : Below w1.heap.size w1 w2:=two_steps (by repeat (first | exact Below.refl _ _ | refine Below.setCell ?_ (by simp <;> omega) _ | refine Below.alloc ?_ (by simp <;> omega) _ | refine Below.drew ?_)) hb2
 have hw2 : Below w.heap.size w w2:=hw1.trans (hs2.mono hw1.size)
 have xp:=blk_below xp hs2
 clear hb2
 obtain ⟨pc0,pc1,pc2,pc3,pc4,pc5,pc6⟩:=cells7 xp
 cases g with
 | true =>
  go_wp2
  go_ret
  exact ⟨rfl,(by repeat (first | with_reducible exact hw2 | refine Below.setCell ?_ (by have:=hw2.size; simp <;> omega) _ | refine Below.alloc ?_ (by have:=hw2.size; simp <;> omega) _ | refine Below.drew ?_))⟩
 | false =>
  go_wp2_with (fail)
  refine (hK.out _ (by repeat (first | with_reducible exact hw2 | refine Below.setCell ?_ (by have:=hw2.size; simp <;> omega) _ | refine Below.alloc ?_ (by have:=hw2.size; simp <;> omega) _ | refine Below.drew ?_))).mono ?_
  rintro e w3 ⟨rfl,hb3⟩
  clear pc0 pc1 pc2 pc3 pc4 pc5 pc6
  have hs3 : Below w2.heap.size w2 w3:=two_steps (by repeat (first | exact Below.refl _ _ | refine Below.setCell ?_ (by simp <;> omega) _ | refine Below.alloc ?_ (by simp <;> omega) _ | refine Below.drew ?_)) hb3
  have hw3 : Below w.heap.size w w3:=hw2.trans (hs3.mono hw2.size)
  have xp:=blk_below xp hs3
  clear hb3
  obtain ⟨pc0,pc1,pc2,pc3,pc4,pc5,pc6⟩:=cells7 xp
  cases k with
  | true =>
   go_wp2
   go_ret
   exact ⟨rfl,(by repeat (first | with_reducible exact hw3 | refine Below.setCell ?_ (by have:=hw3.size; simp <;> omega) _ | refine Below.alloc ?_ (by have:=hw3.size; simp <;> omega) _ | refine Below.drew ?_))⟩
  | false =>
   go_wp2_with (fail)
   refine (hK2.out _ (by repeat (first | with_reducible exact hw3 | refine Below.setCell ?_ (by have:=hw3.size; simp <;> omega) _ | refine Below.alloc ?_ (by have:=hw3.size; simp <;> omega) _ | refine Below.drew ?_))).mono ?_
   rintro e w4 ⟨rfl,hb4⟩
   clear pc0 pc1 pc2 pc3 pc4 pc5 pc6
   have hs4 : Below w3.heap.size w3 w4:=two_steps (by repeat (first | exact Below.refl _ _ | refine Below.setCell ?_ (by simp <;> omega) _ | refine Below.alloc ?_ (by simp <;> omega) _ | refine Below.drew ?_)) hb4
   have hw4 : Below w.heap.size w w4:=hw3.trans (hs4.mono hw3.size)
   have xp:=blk_below xp hs4
   clear hb4
   obtain ⟨pc0,pc1,pc2,pc3,pc4,pc5,pc6⟩:=cells7 xp
   cases k2 with
   | true =>
    go_wp2
    go_ret
    exact ⟨rfl,(by repeat (first | with_reducible exact hw4 | refine Below.setCell ?_ (by have:=hw4.size; simp <;> omega) _ | refine Below.alloc ?_ (by have:=hw4.size; simp <;> omega) _ | refine Below.drew ?_))⟩
   | false =>
    have hsm:=Aside0.mk (hgs.out (by trivial))
    have hsp:=Aside0.mk (smallq (hks.out (by trivial)))
    have hsq:=Aside0.mk (hks2.out (by trivial))
    have hT : Aside0 (Below w4.heap.size w4 (w4.alloc (.cells #[.int .i64 p.f0,.string p.f1,.string p.f2,.string p.f3,.int .i64 p.f4,.slice A5 p.f5.length a5,.slice A6 p.f6.length a6] 25))):=⟨below_alloc (Below.refl _ _) _⟩
    have hN0:=Aside0.mk (lit1N w4 p _ (rd_FK (rp.out.below hw4)))
    have FA : Aside0 (Kd.F k25 w4 (fun k => k < w4.heap.size) P ps.length ps):=⟨Kd.C_F k25_heap (Kd.C_below hps.out hw4)⟩
    have ok0 : Aside0 (∀ k,k < w4.heap.size → True ∧ some k ≠ (Value.slice (some ⟨w4.heap.size,0,none⟩) 1 1).ownBlock):=⟨fun k hk => ⟨trivial,fun e => by simp [Value.ownBlock] at e; omega⟩⟩
    go_upto_region 5 with (((with_reducible refine gate_builtin (b:=.append) (xs:=#[.tmp 32,.tmp 33]) rfl ?_); at_builtin; refine Kd.N_append_rows k25 (w0:=w4) w4.heap.size rfl (.tmp 32) (.tmp 33) 34 25 (.agg #[(.int .i64 0),(.string ⟨#[]⟩),(.string ⟨#[]⟩),(.string ⟨#[]⟩),(.int .i64 0),(.slice none 0 0),(.slice none 0 0)]) 112 rfl Tryz.underlying34 infoP7 rfl (by decide) (by omega) (.slice (some ⟨w4.heap.size,0,none⟩) 1 1) [p] ps P ps.length d (fun _ => True) (fun k => k < w4.heap.size) rfl rfl ?aO ?aR ?aP (fun _ _ => trivial) ?aB ?aS ?aL ?_; (case aO => exact hN0.out); (case aR => exact Kd.F_below FA.out hT.out); (case aP => exact ok0.out); (case aB => exact hT.out); (case aS => exact (hT.out).size); (case aL => have:=hsq.out.1; simp; omega); intro v1 y1 hN1 hB1 hg_ hat_; replace hN1:=Aside0.mk hN1; replace hB1:=Aside0.mk hB1; clear hg_ hat_))
    obtain ⟨D1,d1,rfl,hD1,gD1⟩:=Kd.N_reads hN1.out
    clear pc0 pc1 pc2 pc3 pc4 pc5 pc6
    have hs5 : Below w4.heap.size w4 y1:=hB1.out
    have hw5 : Below w.heap.size w y1:=hw4.trans (hs5.mono hw4.size)
    have xp:=blk_below xp hs5
    obtain ⟨pc0,pc1,pc2,pc3,pc4,pc5,pc6⟩:=cells7 xp
    clear hT hN0 FA ok0 hN1
    obtain ⟨al,hal⟩ : ∃ al,al = [p] ++ ps:=⟨_,rfl⟩
    rw [← hal] at hD1 gD1 ⊢
    have hal2 : Aside0 (al = p :: ps):=⟨by rw [hal]; rfl⟩
    have gD1:=Aside0.mk gD1
    have hD1:=Aside0.mk hD1
    replace hal:=Aside0.mk hal
    have hlen : Aside0 (al.length = ps.length + 1):=⟨by rw [hal2.out]; rfl⟩
    have hq2 : Aside0 (∀ z ∈ al,SmallQ z):=⟨fun z hz => by rw [hal2.out] at hz; rcases List.mem_cons.1 hz with h | hz; exact h ▸ hsp.out; exact smallq (hsq.out.2 z hz)⟩
    have hor:=allE_or l al
    obtain ⟨R,hR⟩ : ∃ R,allE l al = R:=⟨_,rfl⟩
    have hA:=L_at 4000 l A c al D1 d1 y1 (Kd.C_below hr.out hw5) gD1.out (small_bnd hsm.out.2) (by decide) (by have:=hlen.out; have:=hsq.out.1; omega) hq2.out y1 (Below.refl _ _)
    rw [hR] at hA hor
    obtain ⟨M,E,Jx⟩:=R
    dsimp only at hA
    replace hA:=Aside0.mk hA
    replace hor:=Aside0.mk hor
    clear hR
    go_wp2_with (fail)
    refine (hA.out).mono ?_
    rintro e w6 ⟨S,rfl,hb6,hS,hSn⟩
    clear pc0 pc1 pc2 pc3 pc4 pc5 pc6
    have hs6 : Below y1.heap.size y1 w6:=two_steps (by repeat (first | exact Below.refl _ _ | refine Below.setCell ?_ (by simp <;> omega) _ | refine Below.alloc ?_ (by simp <;> omega) _ | refine Below.drew ?_)) hb6
    have hw6 : Below w.heap.size w w6:=hw5.trans (hs6.mono hw5.size)
    have xp:=blk_below xp hs6
    replace hS:=Aside0.mk hS
    replace hSn:=Aside0.mk hSn
    clear hb6
    obtain ⟨pc0,pc1,pc2,pc3,pc4,pc5,pc6⟩:=cells7 xp
    have hP:=fun U h => past_at p ps A5 a5 A6 a6 P d U hp.out ho.out (by have:=hsq.out.1; omega) (rp.out.below h) (Kd.C_below hps.out h) hd.out
    unfold PastPost at hP
    cases hpast : pastS p ps with
    | none =>
     have hpp : past p ps = ([],z25,false):=by unfold past; rw [hpast]
     rw [hpp] at hP
     replace hpp:=Aside0.mk hpp
     replace hpast:=Aside0.mk hpast
     dsimp only at hP
     replace hP:=Aside0.mk hP
     by_cases hz : E = 0
     ·subst hz
      obtain ⟨A4,c4,rfl,hl4,hC4⟩:=hS.out (by trivial)
      clear hS hSn
      replace hC4:=Aside0.mk hC4
      go_wp2_with (fail)
      refine (hP.out _ (by repeat (first | with_reducible exact hw6 | refine Below.setCell ?_ (by have:=hw6.size; simp <;> omega) _ | refine Below.alloc ?_ (by have:=hw6.size; simp <;> omega) _ | refine Below.drew ?_))).mono ?_
      rintro e w7 ⟨D,d2,C5,e5,C6,e6,rfl,hD,hd2,rb,hb7⟩
      clear pc0 pc1 pc2 pc3 pc4 pc5 pc6
      have hs7 : Below w6.heap.size w6 w7:=two_steps (by repeat (first | exact Below.refl _ _ | refine Below.setCell ?_ (by simp <;> omega) _ | refine Below.alloc ?_ (by simp <;> omega) _ | refine Below.drew ?_)) hb7
      have hw7 : Below w.heap.size w w7:=hw6.trans (hs7.mono hw6.size)
      have xp:=blk_below xp hs7
      replace hD:=Aside0.mk hD
      replace rb:=Aside0.mk rb
      clear hb7
      obtain ⟨pc0,pc1,pc2,pc3,pc4,pc5,pc6⟩:=cells7 xp
      go_wp2
      go_ret
      exact ⟨rfl,(by repeat (first | with_reducible exact hw7 | refine Below.setCell ?_ (by have:=hw7.size; simp <;> omega) _ | refine Below.alloc ?_ (by have:=hw7.size; simp <;> omega) _ | refine Below.drew ?_))⟩
     ·skip
      have hne : (E != 0) = true:=by rw [bne_iff_ne]; exact hz
      have hne2 : (E == 0) = false:=by rw [beq_eq_false_iff_ne]; exact hz
      have hS':=hSn.out hz
      subst hS'
      clear hz hS hSn
      go_wp2_with (fail)
      refine (hP.out _ (by repeat (first | with_reducible exact hw6 | refine Below.setCell ?_ (by have:=hw6.size; simp <;> omega) _ | refine Below.alloc ?_ (by have:=hw6.size; simp <;> omega) _ | refine Below.drew ?_))).mono ?_
      rintro e w7 ⟨D,d2,C5,e5,C6,e6,rfl,hD,hd2,rb,hb7⟩
      clear pc0 pc1 pc2 pc3 pc4 pc5 pc6
      have hs7 : Below w6.heap.size w6 w7:=two_steps (by repeat (first | exact Below.refl _ _ | refine Below.setCell ?_ (by simp <;> omega) _ | refine Below.alloc ?_ (by simp <;> omega) _ | refine Below.drew ?_)) hb7
      have hw7 : Below w.heap.size w w7:=hw6.trans (hs7.mono hw6.size)
      have xp:=blk_below xp hs7
      replace hD:=Aside0.mk hD
      replace rb:=Aside0.mk rb
      clear hb7
      obtain ⟨pc0,pc1,pc2,pc3,pc4,pc5,pc6⟩:=cells7 xp
      go_wp2
      go_ret
      exact ⟨rfl,(by repeat (first | with_reducible exact hw7 | refine Below.setCell ?_ (by have:=hw7.size; simp <;> omega) _ | refine Below.alloc ?_ (by have:=hw7.size; simp <;> omega) _ | refine Below.drew ?_))⟩
    | some r =>
     obtain ⟨ds,b⟩:=r
     have hpp : past p ps = (ds,b,true):=by unfold past; rw [hpast]
     rw [hpp] at hP
     replace hpp:=Aside0.mk hpp
     replace hpast:=Aside0.mk hpast
     dsimp only at hP
     replace hP:=Aside0.mk hP
     have hdl : ds.length = ps.length:=pastS_len _ _ _ _ hpast.out
     by_cases hz : E = 0
     ·skip
      subst hz
      obtain ⟨A4,c4,rfl,hl4,hC4⟩:=hS.out (by trivial)
      clear hS hSn
      replace hC4:=Aside0.mk hC4
      replace hl4:=Aside0.mk hl4
      have hrun : Aside0 (treeB l = true ∧ runV l al = some M):=⟨by
       rcases hor.out with ⟨k,h1,h2,h3⟩ | ⟨e,j,h1,h2,_⟩
       ·simp only [Prod.mk.injEq] at h3; rw [h3.1]; exact ⟨h1,h2⟩
       ·simp only [Prod.mk.injEq] at h2; exact absurd h2.2.1.symm h1⟩
      replace hdl:=Aside0.mk hdl
      go_wp2_with (fail)
      refine (hP.out _ (by repeat (first | with_reducible exact hw6 | refine Below.setCell ?_ (by have:=hw6.size; simp <;> omega) _ | refine Below.alloc ?_ (by have:=hw6.size; simp <;> omega) _ | refine Below.drew ?_))).mono ?_
      rintro e w7 ⟨D,d2,C5,e5,C6,e6,rfl,hD,hd2,rb,hb7⟩
      clear pc0 pc1 pc2 pc3 pc4 pc5 pc6
      have hs7 : Below w6.heap.size w6 w7:=two_steps (by repeat (first | exact Below.refl _ _ | refine Below.setCell ?_ (by simp <;> omega) _ | refine Below.alloc ?_ (by simp <;> omega) _ | refine Below.drew ?_)) hb7
      have hw7 : Below w.heap.size w w7:=hw6.trans (hs7.mono hw6.size)
      have xp:=blk_below xp hs7
      replace hD:=Aside0.mk hD
      replace rb:=Aside0.mk rb
      replace hd2:=Aside0.mk hd2
      have hC5:=Aside0.mk (Kd.C_below hC4.out hs7)
      clear hb7
      obtain ⟨pc0,pc1,pc2,pc3,pc4,pc5,pc6⟩:=cells7 xp
      clear pc0 pc1 pc2 pc3 pc4 pc5 pc6
      obtain ⟨ub,hub⟩ : ∃ ub,ub = w7.alloc (.cells #[.int .i64 b.f0,.string b.f1,.string b.f2,.string b.f3,.int .i64 b.f4,.slice C5 b.f5.length e5,.slice C6 b.f6.length e6] 25):=⟨_,rfl⟩
      have hBub : Below w7.heap.size w7 ub:=by rw [hub]; exact below_alloc (Below.refl _ _) _
      have xb : ub.heap[w7.heap.size]? = some (.cells #[.int .i64 b.f0,.string b.f1,.string b.f2,.string b.f3,.int .i64 b.f4,.slice C5 b.f5.length e5,.slice C6 b.f6.length e6] 25 (0,0)):=by rw [hub]; exact blk_new _ _
      have hwub : Below w.heap.size w ub:=hw7.trans (hBub.mono hw7.size)
      have hT : Aside0 (Below ub.heap.size ub (ub.alloc (.cells #[] 25))):=⟨below_alloc (Below.refl _ _) _⟩
      have hN0:=Aside0.mk (lit0N ub)
      have FA : Aside0 (Kd.F k25 ub (fun k => k < ub.heap.size) D ds.length ds):=⟨Kd.C_F k25_heap (Kd.C_below hD.out hBub)⟩
      have ok0 : Aside0 (∀ k,k < ub.heap.size → True ∧ some k ≠ (Value.slice (some ⟨ub.heap.size,0,none⟩) 0 0).ownBlock):=⟨fun k hk => ⟨trivial,fun e => by simp [Value.ownBlock] at e; omega⟩⟩
      have rbu:=Aside0.mk (rb.out.below hBub)
      have hC6:=Aside0.mk (Kd.C_below hC5.out hBub)
      replace hBub:=Aside0.mk hBub
      have hsb:=Aside0.mk (past_small ps p ds b hpast.out (fun z hz => smallq (hsq.out.2 z hz)) hsp.out)
      go_upto_region 9 with (fail)
      rw [← hub]
      clear hub
      go_upto_region 10 with (((with_reducible refine gate_builtin (b:=.append) (xs:=#[.tmp 56,.tmp 57]) rfl ?_); at_builtin; refine Kd.N_append_rows k25 (w0:=ub) ub.heap.size rfl (.tmp 56) (.tmp 57) 34 25 (.agg #[(.int .i64 0),(.string ⟨#[]⟩),(.string ⟨#[]⟩),(.string ⟨#[]⟩),(.int .i64 0),(.slice none 0 0),(.slice none 0 0)]) 112 rfl Tryz.underlying34 infoP7 rfl (by decide) (by omega) (.slice (some ⟨ub.heap.size,0,none⟩) 0 0) [] ds D ds.length d2 (fun _ => True) (fun k => k < ub.heap.size) rfl rfl ?aO ?aR ?aP (fun _ _ => trivial) ?aB ?aS ?aL ?_; (case aO => exact hN0.out); (case aR => exact Kd.F_below FA.out hT.out); (case aP => exact ok0.out); (case aB => exact hT.out); (case aS => exact (hT.out).size); (case aL => have:=hsq.out.1; have:=hdl.out; simp; omega); intro v2 y2 hN2 hB2 hg_ hat_; replace hN2:=Aside0.mk hN2; replace hB2:=Aside0.mk hB2; clear hg_ hat_))
      have xb2:=blk_below xb hB2.out
      obtain ⟨z0,z1,z2,z3,z4,z5,z6⟩:=cells7 xb2
      clear hT hN0 FA ok0
      have hFK : Aside0 (Kd.FK k25 y2 (fun k => k < ub.heap.size) b [.int .i64 b.f0,.string b.f1,.string b.f2,.string b.f3,.int .i64 b.f4,.slice C5 b.f5.length e5,.slice C6 b.f6.length e6]):=⟨Kd.FK_below (rd_FK rbu.out) hB2.out⟩
      have ok1 : Aside0 (∀ k,k < ub.heap.size → True ∧ some k ≠ v2.ownBlock):=⟨fun k hk => ⟨trivial,fun e => by have:=Kd.N_base hN2.out k e.symm; omega⟩⟩
      obtain ⟨D2,d3,rfl,hD2,gD2⟩:=Kd.N_reads hN2.out
      replace gD2:=Aside0.mk gD2
      go_upto_region 11 with (((with_reducible refine gate_builtin (b:=.append) (xs:=#[.tmp 59,.tmp 61]) rfl ?_); at_builtin; refine Kd.N_append k25 (w0:=ub) ub.heap.size rfl (.tmp 59) (.tmp 61) 34 25 (.agg #[(.int .i64 0),(.string ⟨#[]⟩),(.string ⟨#[]⟩),(.string ⟨#[]⟩),(.int .i64 0),(.slice none 0 0),(.slice none 0 0)]) 112 rfl Tryz.underlying34 infoP7 rfl (by decide) (by omega) (.slice D2 ([] ++ ds).length d3) ([] ++ ds) b [.int .i64 b.f0,.string b.f1,.string b.f2,.string b.f3,.int .i64 b.f4,.slice C5 b.f5.length e5,.slice C6 b.f6.length e6] (fun _ => True) (fun k => k < ub.heap.size) rfl rfl ?aP ?aK (fun _ _ => trivial) ?aO ?aB ?aS ?aL ?_; (case aP => exact hFK.out); (case aK => exact ok1.out); (case aO => exact hN2.out); (case aB => exact hB2.out); (case aS => exact (hB2.out).size); (case aL => have:=hsq.out.1; have:=hdl.out; simp; omega); intro v3 y3 hN3 hB3 hg_ hat_; replace hN3:=Aside0.mk hN3; replace hB3:=Aside0.mk hB3; clear hg_ hat_))
      obtain ⟨D3,d4,rfl,hD3,gD3⟩:=Kd.N_reads hN3.out
      clear z0 z1 z2 z3 z4 z5 z6 xb xb2 hN2 hN3 hFK ok1 gD2 hD2
      obtain ⟨bk,hbk⟩ : ∃ bk,bk = [] ++ ds ++ [b]:=⟨_,rfl⟩
      rw [← hbk] at hD3 gD3 ⊢
      replace gD3:=Aside0.mk gD3
      replace hD3:=Aside0.mk hD3
      have hbk2 : Aside0 (bk = ds ++ [b]):=⟨by rw [hbk]; rfl⟩
      replace hbk:=Aside0.mk hbk
      have hbl : Aside0 (bk.length = ps.length + 1):=⟨by rw [hbk2.out,List.length_append,hdl.out]; rfl⟩
      have hq3 : Aside0 (∀ z ∈ bk,SmallQ z):=⟨fun z hz => by rw [hbk2.out] at hz; rcases List.mem_append.1 hz with h | h; exact hsb.out.1 z h; rw [List.mem_singleton.1 h]; exact hsb.out.2⟩
      have hsw : Aside0 (runV l bk = some M):=⟨by rw [hbk2.out]; rcases past_runs ps p l M ds b 0 hpast.out ho.out hp.out (by rw [← hal2.out]; exact hrun.out.2) with h | ⟨_,h⟩; exact h; have:=hsm.out.1; have:=hsq.out.1; omega⟩
      have hres:=Aside0.mk (allE_run hrun.out.1 hsw.out)
      have hw3 : Below w.heap.size w y3:=hwub.trans (hB3.out.mono hwub.size)
      have hA3:=L_at 4000 l A c bk D3 d4 y3 (Kd.C_below hr.out hw3) gD3.out (small_bnd hsm.out.2) (by decide) (by have:=hbl.out; have:=hsq.out.1; omega) hq3.out y3 (Below.refl _ _)
      rw [hres.out] at hA3
      dsimp only at hA3
      replace hA3:=Aside0.mk hA3
      have hM : Aside0 (M.length ≤ 1024 ∧ ∀ x ∈ M,x.f2.length ≤ 140737488355328):=⟨(run_tree _ _ _ (tree_iff.1 hrun.out.1) hrun.out.2).n,fun x hx => Nat.le_trans ((bnd_run _ 4000 l M (small_bnd hsm.out.2) hq2.out hrun.out.2).n x hx) (by have:=hlen.out; have:=hsq.out.1; omega)⟩
      have hC7:=Aside0.mk (Kd.C_below hC6.out hB3.out)
      have dleq : ((ds.length : Int) == (ps.length : Int)) = true:=by rw [hdl.out]; simp
      clear hwub
      go_wp2_with (fail)
      refine (hA3.out).mono ?_
      rintro e w11 ⟨S,rfl,hb11,hS,-⟩
      have hs11 : Below y3.heap.size y3 w11:=two_steps (by repeat (first | exact Below.refl _ _ | refine Below.setCell ?_ (by simp <;> omega) _ | refine Below.alloc ?_ (by simp <;> omega) _ | refine Below.drew ?_)) hb11
      have hw11 : Below w.heap.size w w11:=hw3.trans (hs11.mono hw3.size)
      obtain ⟨A7,c7,rfl,hl7,hC8⟩:=hS (by trivial)
      clear hS
      replace hC8:=Aside0.mk hC8
      replace hl7:=Aside0.mk hl7
      have hC9:=Aside0.mk (Kd.C_below hC7.out hb11)
      clear hb11
      go_wp2_with (fail)
      refine (sameE_at M (Nat.le_trans hM.out.1 (by decide)) hM.out.2 A4 c4 A7 c7 _ hC9.out hl4.out hC8.out hl7.out).mono ?_
      rintro e w12 ⟨rfl,hb12⟩
      have hs12 : Below w11.heap.size w11 w12:=two_steps (by repeat (first | exact Below.refl _ _ | refine Below.setCell ?_ (by simp <;> omega) _ | refine Below.alloc ?_ (by simp <;> omega) _ | refine Below.drew ?_)) hb12
      have hw12 : Below w.heap.size w w12:=hw11.trans (hs12.mono hw11.size)
      clear hb12
      go_wp2
      go_ret
      exact ⟨rfl,(by repeat (first | with_reducible exact hw12 | refine Below.setCell ?_ (by have:=hw12.size; simp <;> omega) _ | refine Below.alloc ?_ (by have:=hw12.size; simp <;> omega) _ | refine Below.drew ?_))⟩
     ·skip
      have hne : (E != 0) = true:=by rw [bne_iff_ne]; exact hz
      have hne2 : (E == 0) = false:=by rw [beq_eq_false_iff_ne]; exact hz
      have hS':=hSn.out hz
      subst hS'
      clear hz hS hSn
      go_wp2_with (fail)
      refine (hP.out _ (by repeat (first | with_reducible exact hw6 | refine Below.setCell ?_ (by have:=hw6.size; simp <;> omega) _ | refine Below.alloc ?_ (by have:=hw6.size; simp <;> omega) _ | refine Below.drew ?_))).mono ?_
      rintro e w7 ⟨D,d2,C5,e5,C6,e6,rfl,hD,hd2,rb,hb7⟩
      clear pc0 pc1 pc2 pc3 pc4 pc5 pc6
      have hs7 : Below w6.heap.size w6 w7:=two_steps (by repeat (first | exact Below.refl _ _ | refine Below.setCell ?_ (by simp <;> omega) _ | refine Below.alloc ?_ (by simp <;> omega) _ | refine Below.drew ?_)) hb7
      have hw7 : Below w.heap.size w w7:=hw6.trans (hs7.mono hw6.size)
      have xp:=blk_below xp hs7
      replace hD:=Aside0.mk hD
      replace rb:=Aside0.mk rb
      clear hb7
      obtain ⟨pc0,pc1,pc2,pc3,pc4,pc5,pc6⟩:=cells7 xp
      go_wp2
      go_ret
      exact ⟨rfl,(by repeat (first | with_reducible exact hw7 | refine Below.setCell ?_ (by have:=hw7.size; simp <;> omega) _ | refine Below.alloc ?_ (by have:=hw7.size; simp <;> omega) _ | refine Below.drew ?_))⟩
end Go.Proofs.YthhohbidjhcjeaaGreatDoor.H
namespace Go.Proofs.YthhohbidjhcjeaaGreatDoor.RCommutePast
open Go.ChangeShapes Go.WideShapes Go.ChangeAt Go.RowKit Go.Proofs.YthhohbidjhcjeaaGreatDoorW.PrintWords Go.Proofs.YthhohbidjhcjeaaGreatDoorW.PrintMore Go.Proofs.YthhohbidjhcjeaaGreatDoor.Q Go.Proofs.YthhohbidjhcjeaaGreatDoor.Op Go.Proofs.YthhohbidjhcjeaaGreatDoor.Pl Go.Proofs.YthhohbidjhcjeaaGreatDoor.Od
set_option maxRecDepth 100000 in
theorem lifted (os : Os) (started : os.Started) (H : Type) (enc : TypeId × Value → H) :
  ReturnsInHanded {} Tryz.checked os 13 .any (fun w args => (Rows.commutePastSpec.pre enc Tryz.prog Tryz.f13 [] false w args ∧ laidMetH Tryz.prog laidTabs w) ∧ sizedMet enc Tryz.prog Tryz.f13 (OpenSpec.ofChange Rows.commutePastSpec) false w args)
   (Rows.commutePastSpec.post enc Tryz.prog Tryz.f13 false true false false):=by
 refine returnsInHanded_of_change_and (C:=Tryz.checked) (X:=fun w _ => laidMetH Tryz.prog laidTabs w) (fun _ _ _ hh h => h.of_heap hh) own started (by kernel_rfl) Tryz.func13
  (ChangeSpec.witness_shaped (enc:=enc) (C:=Tryz.checked) (os:=os) (X:=fun w _ => laidMetH Tryz.prog laidTabs w) false (World.laidAll Tryz.prog os laidTabs) #[.slice none 0 0,.agg #[.int .i64 0,.string ByteArray.empty,.string ByteArray.empty,.string ByteArray.empty,.int .i64 0,.slice none 0 0,.slice none 0 0],.slice none 0 0] 8 (World.laidAll_os _ _ _)
   (World.shaped_of_ZipB (by kernel_rfl) (by kernel_rfl)) (by kernel_rfl) (by kernel_rfl) (by kernel_rfl)
   (by rw [MakeChecks.laidMetH_plain _ _ _ (by kernel_rfl)]; exact laidMet_laidAll _ (by kernel_rfl) (by kernel_rfl))) ?_
 intro W base args ds gs before hval0 hW _ hsz0 hL _
 have hsz : (DataW.weightsEach Tryz.prog (Tryz.f13.params.toList ++ Rows.commutePastSpec.plain.varTypes Tryz.prog) (ds ++ gs)).all (· ≤ reachBytes) = true:=hsz0
 have hval : ∀ (j : Nat) t v,Tryz.f13.params[j]? = some t → args[j]? = some v → Value.okWide Tryz.prog W .any base t v:=hval0
 have hW':=hW
 obtain ⟨p,q,hA0,hV,rfl,hfz,hnd⟩:=hW
 have hA : DataW.TrodAll enc Tryz.prog W 0 (fun _ => true) true Tryz.f13.params.toList args.toList ds p:=hA0
 rw [Tryz.params13] at hA hval hsz
 obtain ⟨v0,vs0,d0,ds0,p0,q0,hargs,rfl,rfl,h0,r0⟩:=trodAll_cons hA
 obtain ⟨v1,vs1,d1,ds1,p1,q1,rfl,rfl,rfl,h1,r1⟩:=trodAll_cons r0
 obtain ⟨v2,vs2,d2,ds2,p2,q2,rfl,rfl,rfl,h2,r2⟩:=trodAll_cons r1
 obtain ⟨rfl,rfl,rfl⟩:=trodAll_nil r2
 obtain rfl : args = #[v0,v1,v2]:=by cases args; simp_all
 obtain ⟨rfl,rfl⟩:=trodVars_none hV
 have k0:=h0
 have lt0 : ∀ x ∈ p0,x.block < W.heap.size:=by obtain ⟨m,hm⟩:=k0; exact DataW.trod_lt m _ _ _ hm
 obtain ⟨x0,hK0,hG0⟩:=opened o22 h0 hsz (j:=0) rfl rfl
 obtain ⟨B0,u0,hc0,lu0,g0⟩:=hK0
 obtain ⟨b0,n0,m0,rfl⟩:=okWide_slice Tryz.underlying22 (hval 0 22 v0 rfl rfl)
 obtain ⟨rfl,rfl,rfl⟩ : b0 = B0 ∧ n0 = x0.length ∧ m0 = u0:=by simpa [Value.cells] using hc0
 obtain ⟨_,hb0,hg0⟩:=hG0
 have k1:=h1
 have lt1 : ∀ x ∈ p1,x.block < W.heap.size:=by obtain ⟨m,hm⟩:=k1; exact DataW.trod_lt m _ _ _ hm
 obtain ⟨x1,hK1,hG1⟩:=opened o25 h1 hsz (j:=1) rfl rfl
 obtain ⟨c1,rfl,_⟩:=okWide_struct Tryz.underlying25 (hval 1 25 v1 rfl rfl)
 obtain ⟨A15,c15,A16,c16,hc1,l15,g15,l16,g16⟩:=k25_open hK1
 obtain rfl : c1 = #[.int .i64 x1.f0,.string x1.f1,.string x1.f2,.string x1.f3,.int .i64 x1.f4,.slice A15 x1.f5.length c15,.slice A16 x1.f6.length c16]:=by rw [← Array.toList_inj]; exact hc1
 have k2:=h2
 have lt2 : ∀ x ∈ p2,x.block < W.heap.size:=by obtain ⟨m,hm⟩:=k2; exact DataW.trod_lt m _ _ _ hm
 obtain ⟨x2,hK2,hG2⟩:=opened o34 h2 hsz (j:=2) rfl rfl
 obtain ⟨B2,u2,hc2,lu2,g2⟩:=hK2
 obtain ⟨b2,n2,m2,rfl⟩:=okWide_slice Tryz.underlying34 (hval 2 34 v2 rfl rfl)
 obtain ⟨rfl,rfl,rfl⟩ : b2 = B2 ∧ n2 = x2.length ∧ m2 = u2:=by simpa [Value.cells] using hc2
 obtain ⟨_,hb2,hg2⟩:=hG2
 clear hA0 hval0 hsz0 hsz
 refine (Go.Proofs.YthhohbidjhcjeaaGreatDoor.H.cpast_calls x0 b0 m0 x1 A15 c15 A16 c16 x2 b2 m2 W g0 lu0 (by omega) (fun x hx => (hg0 x hx).n) hG1 ⟨g15,l15,g16,l16⟩ g2 lu2 (by omega) hg2).mono fun e W' ⟨he,bel⟩ => ?_
 subst he
 exact ⟨_,rfl,_,_,_,[],_,[],hW',trodAll_mk1 (shut_bool Tryz.underlying4 _),(trodAll_cons_mk (Below.trod laidOut (by kernel_rfl) (of_decide_eq_true (by kernel_rfl)) k0 bel lt0) (trodAll_cons_mk (Below.trod laidOut (by kernel_rfl) (of_decide_eq_true (by kernel_rfl)) k1 bel lt1) (trodAll_cons_mk (Below.trod laidOut (by kernel_rfl) (of_decide_eq_true (by kernel_rfl)) k2 bel lt2) trodAll_mk0))),rfl,bel.frame _,fun h => by cases h⟩
theorem band {a b : Bool} (ha : a = true) (hb : b = true) : (a && b) = true:=by rw [ha,hb]; rfl
set_option maxHeartbeats 4000000 in
theorem facts : joinedFacts Tryz.prog 13 Tryz.f13 Rows.commutePastSpec Rows.commutePastRow = true:=by
 unfold joinedFacts
 repeat' (with_reducible refine band ?_ ?_)
 all_goals (first | (with_reducible exact heads.1) | (rw [heads.2.1]; rfl) | (rw [heads.2.2.1]; rfl) | (as_aux_lemma => kernel_rfl))
set_option maxHeartbeats 4000000 in
theorem over : Rows.commutePastRow.holds Tryz.pinned (OpenSpec.ofChange Rows.commutePastSpec) :=
 OpenClaim.holds_of_wide 13 Tryz.f13 rfl rfl rfl rfl rfl rfl rfl ⟨rfl,rfl,rfl,rfl,rfl⟩ rfl rfl rfl rfl rfl (by as_aux_lemma => kernel_rfl) Tryz.func13 facts
  (of_decide_eq_true (by as_aux_lemma => kernel_rfl)) (by unfold Func.isWrapper; first | (rw [if_pos (by decide +kernel)]; kernel_rfl) | (rw [if_neg (by decide +kernel)]; exact ⟨rfl,rfl⟩))
  (fun os started H enc _ => lifted os started H enc)
set_option maxHeartbeats 4000000 in
theorem card : Rows.CommutePastCardSaid :=
 Claim7.holds_tied_plain_at .later [] [.data, .pinned] true (true, "b2c3b2d2b50221d5631762a848752805bff427337fd1c8fab364110e20b5edb9") false over (fun _ h => by cases h) (by as_aux_lemma => kernel_rfl) (fun _ h => by cases h) commutePast_row_tie rfl ⟨rfl, rfl⟩ heads.2.2.2 rfl
  (fun f fn hf hfn => by
   obtain rfl : f = 13:=Option.some.inj ((show Tryz.prog.funcNamed Rows.commutePastRow.func = some 13 by as_aux_lemma => kernel_rfl).symm.trans hf) |>.symm
   obtain rfl : fn = Tryz.f13:=(Option.some.inj (Tryz.func13.symm.trans hfn)).symm
   exact ⟨by as_aux_lemma => kernel_rfl,fun j t ht => by
    rw [Tryz.params13] at ht
    have hm : t ∈ [22,25,34]:=by simpa using Array.mem_of_getElem? ht
    have hall : ([22,25,34].all fun u => !Tryz.prog.wantsStandIn u) = true:=by as_aux_lemma => kernel_rfl
    exact (show Tryz.prog.wantsStandIn t = false by simpa using List.all_eq_true.1 hall t hm)⟩)
  (by as_aux_lemma => kernel_rfl)
end Go.Proofs.YthhohbidjhcjeaaGreatDoor.RCommutePast
namespace Go.Proofs.YthhohbidjhcjeaaGreatDoor
/-- The card of CommutePast. -/
theorem CommutePast_card : Rows.CommutePastCardSaid:=RCommutePast.card
#print axioms CommutePast_card
end Go.Proofs.YthhohbidjhcjeaaGreatDoor
