/- The walk of law 10's CommuteTells: whatever the patches, it answers true. -/
import Derived.Test.YthhohbidjhcjeaaDoorTCl
import Derived.Test.YthhohbidjhcjeaaDoorTCq
namespace Go.Proofs.YthhohbidjhcjeaaDoor.H
open Go.RowKit Go.Proofs.YthhohbidjhcjeaaDoorW.PrintWords Go.Proofs.YthhohbidjhcjeaaDoorW.PrintLast Go.Proofs.YthhohbidjhcjeaaDoorW.PrintMore
open Go.Proofs.YthhohbidjhcjeaaDoor.Q Go.Proofs.YthhohbidjhcjeaaDoor.Pl
set_option linter.unusedSimpArgs false
set_option linter.unusedVariables false
theorem okp_past : ∀ (a : List S24) (p : S24),Okp p → (∀ x ∈ a,Okp x) → ∀ y r,pastS p a = some (y,r) → Okp r ∧ (∀ x ∈ y,Okp x) ∧ y.length = a.length
 | [],p,hp,_,y,r,h => by
  simp only [pastS,Option.some.injEq,Prod.mk.injEq] at h
  obtain ⟨rfl,rfl⟩:=h
  exact ⟨hp,(fun x hx => by cases hx),rfl⟩
 | x :: a,p,hp,ha,y,r,h => by
  rcases comm_or p x with e | ⟨c,d,hy,e⟩
  ·rw [pastS,e,if_neg (by simp)] at h
   cases h
  ·obtain ⟨oc,od⟩:=okp_yes hy hp (ha x (List.mem_cons_self ..))
   rw [pastS,e,if_pos rfl] at h
   cases hq : pastS d a with
   | none =>
    rw [hq] at h
    cases h
   | some z =>
    rw [hq] at h
    obtain ⟨o1,o2,o3⟩:=okp_past a d od (fun z hz => ha z (List.mem_cons_of_mem _ hz)) z.1 z.2 hq
    simp only [Option.map_some,Option.some.injEq,Prod.mk.injEq] at h
    obtain ⟨rfl,rfl⟩:=h
    refine ⟨o1,fun w hw => ?_,by simp [o3]⟩
    rcases List.mem_cons.1 hw with rfl | hw
    ·exact oc
    ·exact o2 w hw
theorem past_none {p : S24} {l : List S24} (h : pastS p l = none) : past p l = ([],z24,false):=by unfold past; rw [h]
theorem past_some {p : S24} {l : List S24} {y : List S24} {r : S24} (h : pastS p l = some (y,r)) : past p l = (y,r,true):=by unfold past; rw [h]
theorem greatList_at (l : List S24) (A : Option Addr) (c : Nat) (w : World) (hn : l.length ≤ 140737488355328) (hl : ∀ x ∈ l,Okp x) (gl : Kd.C k24 w A l.length l) (hc : l.length ≤ c) :
  ∃ r,(r = false → l.length ≤ 60) ∧ Calls Tryd.prog 17 #[.slice A l.length c] w fun e w' => e = .returned (.bool r) ∧ Below w.heap.size w w':=by
 obtain ⟨r,hr,h60⟩:=greatList l hn (fun x hx => (hl x hx).ok)
 obtain ⟨k,hk⟩:=hr.rounds
 exact ⟨r,h60,counterpanelaw08_GreatList.calls k A c l r w gl hc hk⟩
theorem sameList_at (l : List S24) (A : Option Addr) (c : Nat) (B : Option Addr) (d : Nat) (w : World) (hn : l.length ≤ 140737488355328) (hl : ∀ x ∈ l,Okp x) (gl : Kd.C k24 w A l.length l) (hc : l.length ≤ c) (gl2 : Kd.C k24 w B l.length l) (hd : l.length ≤ d) :
  Calls Tryd.prog 21 #[.slice A l.length c,.slice B l.length d] w fun e w' => e = .returned (.bool true) ∧ Below w.heap.size w w':=by
 obtain ⟨r,hr,hj⟩:=sameList l l hn (fun x hx => (hl x hx).ok)
 obtain rfl:=hj.2 rfl
 obtain ⟨k,hk⟩:=hr.rounds
 exact counterpaneref08_SameList.calls k A c l B d l true w gl hc gl2 hd hk
theorem comm_gen (p q : S24) (A5 : Option Addr) (c5 : Nat) (A6 : Option Addr) (c6 : Nat) (B5 : Option Addr) (d5 : Nat) (B6 : Option Addr) (d6 : Nat) (w : World) (hp : Okp p) (hq : Okp q) (rp : Rd w p A5 c5 A6 c6) (rq : Rd w q B5 d5 B6 d6) :
  Calls Tryd.prog 24 #[.agg (cs p A5 c5 A6 c6),.agg (cs q B5 d5 B6 d6)] w fun e w' => ∃ (a b : S24) (X5 : Option Addr) (x5 : Nat) (X6 : Option Addr) (x6 : Nat) (Y5 : Option Addr) (y5 : Nat) (Y6 : Option Addr) (y6 : Nat) (is : Bool),e = .returned (.tuple #[.agg (cs a X5 x5 X6 x6),.agg (cs b Y5 y5 Y6 y6),.bool is]) ∧ Rd w' a X5 x5 X6 x6 ∧ Rd w' b Y5 y5 Y6 y6 ∧ comm p q = (a,b,is) ∧ Below w.heap.size w w':=by
 refine (comm_at p q A5 c5 A6 c6 B5 d5 B6 d6 w hp hq rp rq).mono ?_
 rintro e w' ⟨⟨hn,rfl⟩ | ⟨a,b,hy,rfl⟩,hb⟩
 ·exact ⟨z24,z24,none,0,none,0,none,0,none,0,false,rfl,rd_nil _ _ rfl rfl,rd_nil _ _ rfl rfl,hn,hb⟩
 ·obtain ⟨kb,ka⟩:=rule_keep hy.r
  exact ⟨a,b,B5,d5,B6,d6,A5,c5,A6,c6,true,rfl,(rq.of (by rw [ka]) (by rw [ka])).below hb,(rp.of (by rw [kb]) (by rw [kb])).below hb,comm_of hy,hb⟩
theorem rcomm_gen (p q : S24) (A5 : Option Addr) (c5 : Nat) (A6 : Option Addr) (c6 : Nat) (B5 : Option Addr) (d5 : Nat) (B6 : Option Addr) (d6 : Nat) (w : World) (hp : Okq p) (hq : Okq q) (rp : Rd w p A5 c5 A6 c6) (rq : Rd w q B5 d5 B6 d6) :
  Calls Tryd.prog 25 #[.agg (cs p A5 c5 A6 c6),.agg (cs q B5 d5 B6 d6)] w fun e w' => ∃ (a b : S24) (X5 : Option Addr) (x5 : Nat) (X6 : Option Addr) (x6 : Nat) (Y5 : Option Addr) (y5 : Nat) (Y6 : Option Addr) (y6 : Nat) (is : Bool),e = .returned (.tuple #[.agg (cs a X5 x5 X6 x6),.agg (cs b Y5 y5 Y6 y6),.bool is]) ∧ Rd w' a X5 x5 X6 x6 ∧ Rd w' b Y5 y5 Y6 y6 ∧ comm p q = (a,b,is) ∧ Below w.heap.size w w':=by
 refine (rcomm_at p q A5 c5 A6 c6 B5 d5 B6 d6 w hp hq rp rq).mono ?_
 rintro e w' ⟨⟨hn,rfl⟩ | ⟨a,b,hy,rfl⟩,hb⟩
 ·exact ⟨z24,z24,none,0,none,0,none,0,none,0,false,rfl,rd_nil _ _ rfl rfl,rd_nil _ _ rfl rfl,hn,hb⟩
 ·obtain ⟨kb,ka⟩:=rule_keep hy.r
  exact ⟨a,b,B5,d5,B6,d6,A5,c5,A6,c6,true,rfl,(rq.of (by rw [ka]) (by rw [ka])).below hb,(rp.of (by rw [kb]) (by rw [kb])).below hb,comm_of hy,hb⟩
theorem okp_z : Okp z24:=⟨⟨by decide,by decide⟩,by decide,by decide,by decide⟩
theorem comm_okp {p q a b : S24} {is : Bool} (hp : Okp p) (hq : Okp q) (h : comm p q = (a,b,is)) : Okp a ∧ Okp b:=by
 rcases comm_or p q with e | ⟨c,d,hy,e⟩
 ·obtain ⟨rfl,rfl,-⟩:=prod3 (h.symm.trans e)
  exact ⟨okp_z,okp_z⟩
 ·obtain ⟨rfl,rfl,-⟩:=prod3 (h.symm.trans e)
  exact okp_yes hy hp hq
theorem past_okp {p z : S24} {l y : List S24} {is : Bool} (hp : Okp p) (hl : ∀ x ∈ l,Okp x) (h : past p l = (y,z,is)) : Okp z ∧ (∀ x ∈ y,Okp x) ∧ y.length ≤ l.length:=by
 cases e : pastS p l with
 | none =>
  obtain ⟨rfl,rfl,-⟩:=prod3 (h.symm.trans (past_none e))
  exact ⟨okp_z,(fun x hx => by cases hx),Nat.zero_le _⟩
 | some r =>
  obtain ⟨y',z'⟩:=r
  obtain ⟨rfl,rfl,-⟩:=prod3 (h.symm.trans (past_some e))
  obtain ⟨h1,h2,h3⟩:=okp_past l p hp hl _ _ e
  exact ⟨h1,h2,by omega⟩
set_option maxHeartbeats 8000000 in
set_option maxRecDepth 100000 in
theorem tells10_calls (p q : S24) (l : List S24) (A5 : Option Addr) (a5 : Nat) (A6 : Option Addr) (a6 : Nat) (B5 : Option Addr) (b5 : Nat) (B6 : Option Addr) (b6 : Nat) (L : Option Addr) (cl : Nat) (w : World) (op : Okq p) (oq : Okq q) (ol : ∀ x ∈ l,Okq x) (nl : l.length ≤ 140737488355328) (rp : Rd w p A5 a5 A6 a6) (rq : Rd w q B5 b5 B6 b6) (gl : Kd.C k24 w L l.length l) (hcl : l.length ≤ cl) :
  Calls Tryd.prog 4 #[.agg #[.int .i64 p.f0,.string p.f1,.string p.f2,.string p.f3,.int .i64 p.f4,.slice A5 p.f5.length a5,.slice A6 p.f6.length a6],.agg #[.int .i64 q.f0,.string q.f1,.string q.f2,.string q.f3,.int .i64 q.f4,.slice B5 q.f5.length b5,.slice B6 q.f6.length b6],.slice L l.length cl] w fun e w' => e = .returned (.bool true) ∧ Below w.heap.size w w':=by
 have hp:=op.ok
 have hq:=oq.ok
 have hl : ∀ x ∈ l,Okp x:=fun x hx => (ol x hx).ok
 replace ol:=Aside0.mk ol
 replace hl:=Aside0.mk hl
 go_enter Tryd.func4,Tryd.ntmps4
 go_wp2_with (fail)
 refine (head10_calls _).mono ?_
 rintro e w1 ⟨rfl,hb1⟩
 have hs1 : Below w.heap.size w w1:=two_steps (by repeat (first | exact Below.refl _ _ | refine Below.setCell ?_ (by simp <;> omega) _ | refine Below.alloc ?_ (by simp <;> omega) _ | refine Below.drew ?_)) hb1
 have hw1 : Below w.heap.size w w1:=(Below.refl w.heap.size w).trans (hs1.mono (Below.refl w.heap.size w).size)
 have rp:=rp.below hs1
 have rq:=rq.below hs1
 have gl:=Kd.C_below gl hs1
 have xp : w1.heap[w.heap.size]? = some (.cells #[.int .i64 p.f0,.string p.f1,.string p.f2,.string p.f3,.int .i64 p.f4,.slice A5 p.f5.length a5,.slice A6 p.f6.length a6] 24 (0,0)):=blk_below (box1 w _ _) hb1
 have xq : w1.heap[w.heap.size + 1]? = some (.cells #[.int .i64 q.f0,.string q.f1,.string q.f2,.string q.f3,.int .i64 q.f4,.slice B5 q.f5.length b5,.slice B6 q.f6.length b6] 24 (0,0)):=blk_below (box2 w _ _) hb1
 obtain ⟨pc0,pc1,pc2,pc3,pc4,pc5,pc6⟩:=cells7 xp
 obtain ⟨qc0,qc1,qc2,qc3,qc4,qc5,qc6⟩:=cells7 xq
 go_wp2_with (fail)
 obtain ⟨r,-,hg⟩:=great_at p A5 a5 A6 a6 w1 hp rp
 refine hg.mono ?_
 rintro e w2 ⟨rfl,hb2⟩
 clear pc0 pc1 pc2 pc3 pc4 pc5 pc6 qc0 qc1 qc2 qc3 qc4 qc5 qc6
 have hs2 : Below w1.heap.size w1 w2:=two_steps (by repeat (first | exact Below.refl _ _ | refine Below.setCell ?_ (by simp <;> omega) _ | refine Below.alloc ?_ (by simp <;> omega) _ | refine Below.drew ?_)) hb2
 have hw2 : Below w.heap.size w w2:=hw1.trans (hs2.mono hw1.size)
 have xp:=blk_below xp hs2
 have xq:=blk_below xq hs2
 have rp:=rp.below hs2
 have rq:=rq.below hs2
 have gl:=Kd.C_below gl hs2
 obtain ⟨pc0,pc1,pc2,pc3,pc4,pc5,pc6⟩:=cells7 xp
 obtain ⟨qc0,qc1,qc2,qc3,qc4,qc5,qc6⟩:=cells7 xq
 cases r with
 | true =>
  go_wp2
  go_ret
  exact ⟨rfl,by repeat (first | with_reducible exact hw2 | refine Below.setCell ?_ (by have:=hw2.size; simp <;> omega) _ | refine Below.alloc ?_ (by have:=hw2.size; simp <;> omega) _ | refine Below.drew ?_)⟩
 | false =>
  go_wp2_with (fail)
  obtain ⟨r,-,hg⟩:=great_at q B5 b5 B6 b6 w2 hq rq
  refine hg.mono ?_
  rintro e w3 ⟨rfl,hb3⟩
  clear pc0 pc1 pc2 pc3 pc4 pc5 pc6 qc0 qc1 qc2 qc3 qc4 qc5 qc6
  have hs3 : Below w2.heap.size w2 w3:=two_steps (by repeat (first | exact Below.refl _ _ | refine Below.setCell ?_ (by simp <;> omega) _ | refine Below.alloc ?_ (by simp <;> omega) _ | refine Below.drew ?_)) hb3
  have hw3 : Below w.heap.size w w3:=hw2.trans (hs3.mono hw2.size)
  have xp:=blk_below xp hs3
  have xq:=blk_below xq hs3
  have rp:=rp.below hs3
  have rq:=rq.below hs3
  have gl:=Kd.C_below gl hs3
  obtain ⟨pc0,pc1,pc2,pc3,pc4,pc5,pc6⟩:=cells7 xp
  obtain ⟨qc0,qc1,qc2,qc3,qc4,qc5,qc6⟩:=cells7 xq
  cases r with
  | true =>
   go_wp2
   go_ret
   exact ⟨rfl,by repeat (first | with_reducible exact hw3 | refine Below.setCell ?_ (by have:=hw3.size; simp <;> omega) _ | refine Below.alloc ?_ (by have:=hw3.size; simp <;> omega) _ | refine Below.drew ?_)⟩
  | false =>
   go_wp2_with (fail)
   obtain ⟨r,hg60,hg⟩:=greatList_at l L cl w3 nl hl.out gl hcl
   refine hg.mono ?_
   rintro e w4 ⟨rfl,hb4⟩
   clear pc0 pc1 pc2 pc3 pc4 pc5 pc6 qc0 qc1 qc2 qc3 qc4 qc5 qc6
   have hs4 : Below w3.heap.size w3 w4:=two_steps (by repeat (first | exact Below.refl _ _ | refine Below.setCell ?_ (by simp <;> omega) _ | refine Below.alloc ?_ (by simp <;> omega) _ | refine Below.drew ?_)) hb4
   have hw4 : Below w.heap.size w w4:=hw3.trans (hs4.mono hw3.size)
   have xp:=blk_below xp hs4
   have xq:=blk_below xq hs4
   have rp:=rp.below hs4
   have rq:=rq.below hs4
   have gl:=Kd.C_below gl hs4
   obtain ⟨pc0,pc1,pc2,pc3,pc4,pc5,pc6⟩:=cells7 xp
   obtain ⟨qc0,qc1,qc2,qc3,qc4,qc5,qc6⟩:=cells7 xq
   cases r with
   | true =>
    clear hg60
    go_wp2
    go_ret
    exact ⟨rfl,by repeat (first | with_reducible exact hw4 | refine Below.setCell ?_ (by have:=hw4.size; simp <;> omega) _ | refine Below.alloc ?_ (by have:=hw4.size; simp <;> omega) _ | refine Below.drew ?_)⟩
   | false =>
    have ll:=Aside0.mk (hg60 rfl)
    clear hg60
    have nl2 : Aside0 (l.length * 112 ≤ 140737488355328):=⟨by have:=ll.out; omega⟩
    go_wp2_with (fail)
    refine (comm_gen p q A5 a5 A6 a6 B5 b5 B6 b6 _ hp hq (rp.below (by repeat (first | exact Below.refl _ _ | refine Below.setCell ?_ (by simp <;> omega) _ | refine Below.alloc ?_ (by simp <;> omega) _ | refine Below.drew ?_))) (rq.below (by repeat (first | exact Below.refl _ _ | refine Below.setCell ?_ (by simp <;> omega) _ | refine Below.alloc ?_ (by simp <;> omega) _ | refine Below.drew ?_)))).mono ?_
    rintro e w5 ⟨a,b,X5,x5,X6,x6,Y5,y5,Y6,y6,is,rfl,ra,rb,hcm,hb5⟩
    clear pc0 pc1 pc2 pc3 pc4 pc5 pc6 qc0 qc1 qc2 qc3 qc4 qc5 qc6
    have hs5 : Below w4.heap.size w4 w5:=two_steps (by repeat (first | exact Below.refl _ _ | refine Below.setCell ?_ (by simp <;> omega) _ | refine Below.alloc ?_ (by simp <;> omega) _ | refine Below.drew ?_)) hb5
    have hw5 : Below w.heap.size w w5:=hw4.trans (hs5.mono hw4.size)
    have xp:=blk_below xp hs5
    have xq:=blk_below xq hs5
    have rp:=rp.below hs5
    have rq:=rq.below hs5
    have gl:=Kd.C_below gl hs5
    obtain ⟨pc0,pc1,pc2,pc3,pc4,pc5,pc6⟩:=cells7 xp
    obtain ⟨qc0,qc1,qc2,qc3,qc4,qc5,qc6⟩:=cells7 xq
    have hcm1:=Aside0.mk hcm
    obtain ⟨oa,ob⟩:=comm_okp hp hq hcm
    clear hcm
    obtain ⟨pd0,pd1,pd2,pd3,pd4,pd5,pd6⟩:=deep2 xp
    obtain ⟨qd0,qd1,qd2,qd3,qd4,qd5,qd6⟩:=deep2 xq
    go_wp2_with (fail)
    refine (rcomm_gen p q A5 a5 A6 a6 B5 b5 B6 b6 _ op oq (rp.below (by repeat (first | exact Below.refl _ _ | refine Below.setCell ?_ (by simp <;> omega) _ | refine Below.alloc ?_ (by simp <;> omega) _ | refine Below.drew ?_))) (rq.below (by repeat (first | exact Below.refl _ _ | refine Below.setCell ?_ (by simp <;> omega) _ | refine Below.alloc ?_ (by simp <;> omega) _ | refine Below.drew ?_)))).mono ?_
    rintro e w6 ⟨c,d,G5,g5,G6,g6,H5,h5,H6,h6,is2,rfl,rc,rd,hcm2,hb6⟩
    obtain ⟨rfl,rfl,rfl⟩:=prod3 (hcm2.symm.trans hcm1.out)
    clear hcm2
    clear pc0 pc1 pc2 pc3 pc4 pc5 pc6 qc0 qc1 qc2 qc3 qc4 qc5 qc6 pd0 pd1 pd2 pd3 pd4 pd5 pd6 qd0 qd1 qd2 qd3 qd4 qd5 qd6
    have hs6 : Below w5.heap.size w5 w6:=two_steps (by repeat (first | exact Below.refl _ _ | refine Below.setCell ?_ (by simp <;> omega) _ | refine Below.alloc ?_ (by simp <;> omega) _ | refine Below.drew ?_)) hb6
    have hw6 : Below w.heap.size w w6:=hw5.trans (hs6.mono hw5.size)
    have xp:=blk_below xp hs6
    have xq:=blk_below xq hs6
    have rp:=rp.below hs6
    have rq:=rq.below hs6
    have ra:=ra.below hs6
    have rb:=rb.below hs6
    have gl:=Kd.C_below gl hs6
    have xa : w6.heap[w5.heap.size]? = some (.cells #[.int .i64 c.f0,.string c.f1,.string c.f2,.string c.f3,.int .i64 c.f4,.slice X5 c.f5.length x5,.slice X6 c.f6.length x6] 24 (0,0)):=blk_below (box1 w5 _ _) hb6
    have xb : w6.heap[w5.heap.size + 1]? = some (.cells #[.int .i64 d.f0,.string d.f1,.string d.f2,.string d.f3,.int .i64 d.f4,.slice Y5 d.f5.length y5,.slice Y6 d.f6.length y6] 24 (0,0)):=blk_below (box2 w5 _ _) hb6
    obtain ⟨pc0,pc1,pc2,pc3,pc4,pc5,pc6⟩:=cells7 xp
    obtain ⟨qc0,qc1,qc2,qc3,qc4,qc5,qc6⟩:=cells7 xq
    obtain ⟨ac0,ac1,ac2,ac3,ac4,ac5,ac6⟩:=cells7 xa
    obtain ⟨bc0,bc1,bc2,bc3,bc4,bc5,bc6⟩:=cells7 xb
    obtain ⟨pd0,pd1,pd2,pd3,pd4,pd5,pd6⟩:=deep2 xp
    obtain ⟨qd0,qd1,qd2,qd3,qd4,qd5,qd6⟩:=deep2 xq
    obtain ⟨ad0,ad1,ad2,ad3,ad4,ad5,ad6⟩:=deep2 xa
    obtain ⟨bd0,bd1,bd2,bd3,bd4,bd5,bd6⟩:=deep2 xb
    obtain ⟨py,pz,pb,hpe⟩ : ∃ y z b,past p l = (y,z,b):=⟨_,_,_,rfl⟩
    have e1:=Aside0.mk hpe
    obtain ⟨oz,oy,hly⟩:=past_okp hp hl.out hpe
    replace oy:=Aside0.mk oy
    replace hly:=Aside0.mk hly
    have ny : Aside0 (py.length ≤ 140737488355328):=⟨by have:=ll.out; have:=hly.out; omega⟩
    clear hpe
    go_wp2_with (fail)
    refine (past_at p l A5 a5 A6 a6 L cl _ hp hl.out nl2.out (rp.below (by repeat (first | exact Below.refl _ _ | refine Below.setCell ?_ (by simp <;> omega) _ | refine Below.alloc ?_ (by simp <;> omega) _ | refine Below.drew ?_))) (Kd.C_below gl (by repeat (first | exact Below.refl _ _ | refine Below.setCell ?_ (by simp <;> omega) _ | refine Below.alloc ?_ (by simp <;> omega) _ | refine Below.drew ?_))) hcl).mono ?_
    intro e w7 h4
    unfold PastPost at h4
    rw [e1.out] at h4
    obtain ⟨D1,d1,P15,p15,P16,p16,rfl,gD1,hD1,r1,hb7⟩:=h4
    clear pc0 pc1 pc2 pc3 pc4 pc5 pc6 qc0 qc1 qc2 qc3 qc4 qc5 qc6 ac0 ac1 ac2 ac3 ac4 ac5 ac6 bc0 bc1 bc2 bc3 bc4 bc5 bc6 pd0 pd1 pd2 pd3 pd4 pd5 pd6 qd0 qd1 qd2 qd3 qd4 qd5 qd6 ad0 ad1 ad2 ad3 ad4 ad5 ad6 bd0 bd1 bd2 bd3 bd4 bd5 bd6
    have hs7 : Below w6.heap.size w6 w7:=two_steps (by repeat (first | exact Below.refl _ _ | refine Below.setCell ?_ (by simp <;> omega) _ | refine Below.alloc ?_ (by simp <;> omega) _ | refine Below.drew ?_)) hb7
    have hw7 : Below w.heap.size w w7:=hw6.trans (hs7.mono hw6.size)
    have xp:=blk_below xp hs7
    have xq:=blk_below xq hs7
    have xa:=blk_below xa hs7
    have xb:=blk_below xb hs7
    have rp:=rp.below hs7
    have rq:=rq.below hs7
    have ra:=ra.below hs7
    have rb:=rb.below hs7
    have rc:=rc.below hs7
    have rd:=rd.below hs7
    have gl:=Kd.C_below gl hs7
    have xc : w7.heap[w6.heap.size]? = some (.cells #[.int .i64 c.f0,.string c.f1,.string c.f2,.string c.f3,.int .i64 c.f4,.slice G5 c.f5.length g5,.slice G6 c.f6.length g6] 24 (0,0)):=blk_below (box1 w6 _ _) hb7
    have xd : w7.heap[w6.heap.size + 1]? = some (.cells #[.int .i64 d.f0,.string d.f1,.string d.f2,.string d.f3,.int .i64 d.f4,.slice H5 d.f5.length h5,.slice H6 d.f6.length h6] 24 (0,0)):=blk_below (box2 w6 _ _) hb7
    obtain ⟨pc0,pc1,pc2,pc3,pc4,pc5,pc6⟩:=cells7 xp
    obtain ⟨qc0,qc1,qc2,qc3,qc4,qc5,qc6⟩:=cells7 xq
    obtain ⟨ac0,ac1,ac2,ac3,ac4,ac5,ac6⟩:=cells7 xa
    obtain ⟨bc0,bc1,bc2,bc3,bc4,bc5,bc6⟩:=cells7 xb
    obtain ⟨cc0,cc1,cc2,cc3,cc4,cc5,cc6⟩:=cells7 xc
    obtain ⟨dc0,dc1,dc2,dc3,dc4,dc5,dc6⟩:=cells7 xd
    obtain ⟨pd0,pd1,pd2,pd3,pd4,pd5,pd6⟩:=deep1 xp
    obtain ⟨qd0,qd1,qd2,qd3,qd4,qd5,qd6⟩:=deep1 xq
    obtain ⟨ad0,ad1,ad2,ad3,ad4,ad5,ad6⟩:=deep1 xa
    obtain ⟨bd0,bd1,bd2,bd3,bd4,bd5,bd6⟩:=deep1 xb
    obtain ⟨cd0,cd1,cd2,cd3,cd4,cd5,cd6⟩:=deep1 xc
    obtain ⟨dd0,dd1,dd2,dd3,dd4,dd5,dd6⟩:=deep1 xd
    go_wp2_with (fail)
    refine (rpast_at p l A5 a5 A6 a6 L cl _ op ol.out nl2.out (rp.below (by repeat (first | exact Below.refl _ _ | refine Below.setCell ?_ (by simp <;> omega) _ | refine Below.alloc ?_ (by simp <;> omega) _ | refine Below.drew ?_))) (Kd.C_below gl (by repeat (first | exact Below.refl _ _ | refine Below.setCell ?_ (by simp <;> omega) _ | refine Below.alloc ?_ (by simp <;> omega) _ | refine Below.drew ?_))) hcl).mono ?_
    intro e w8 h4
    unfold PastPost at h4
    rw [e1.out] at h4
    obtain ⟨D2,d2,P25,p25,P26,p26,rfl,gD2,hD2,r2,hb8⟩:=h4
    clear pc0 pc1 pc2 pc3 pc4 pc5 pc6 qc0 qc1 qc2 qc3 qc4 qc5 qc6 ac0 ac1 ac2 ac3 ac4 ac5 ac6 bc0 bc1 bc2 bc3 bc4 bc5 bc6 cc0 cc1 cc2 cc3 cc4 cc5 cc6 dc0 dc1 dc2 dc3 dc4 dc5 dc6 pd0 pd1 pd2 pd3 pd4 pd5 pd6 qd0 qd1 qd2 qd3 qd4 qd5 qd6 ad0 ad1 ad2 ad3 ad4 ad5 ad6 bd0 bd1 bd2 bd3 bd4 bd5 bd6 cd0 cd1 cd2 cd3 cd4 cd5 cd6 dd0 dd1 dd2 dd3 dd4 dd5 dd6
    have hs8 : Below w7.heap.size w7 w8:=two_steps (by repeat (first | exact Below.refl _ _ | refine Below.setCell ?_ (by simp <;> omega) _ | refine Below.alloc ?_ (by simp <;> omega) _ | refine Below.drew ?_)) hb8
    have hw8 : Below w.heap.size w w8:=hw7.trans (hs8.mono hw7.size)
    have xp:=blk_below xp hs8
    have xq:=blk_below xq hs8
    have xa:=blk_below xa hs8
    have xb:=blk_below xb hs8
    have xc:=blk_below xc hs8
    have xd:=blk_below xd hs8
    have rp:=rp.below hs8
    have rq:=rq.below hs8
    have ra:=ra.below hs8
    have rb:=rb.below hs8
    have rc:=rc.below hs8
    have rd:=rd.below hs8
    have r1:=r1.below hs8
    have gl:=Kd.C_below gl hs8
    have gD1:=Kd.C_below gD1 hs8
    have xb1 : w8.heap[w7.heap.size]? = some (.cells #[.int .i64 pz.f0,.string pz.f1,.string pz.f2,.string pz.f3,.int .i64 pz.f4,.slice P15 pz.f5.length p15,.slice P16 pz.f6.length p16] 24 (0,0)):=blk_below (blk_new w7 _) hb8
    obtain ⟨pc0,pc1,pc2,pc3,pc4,pc5,pc6⟩:=cells7 xp
    obtain ⟨qc0,qc1,qc2,qc3,qc4,qc5,qc6⟩:=cells7 xq
    obtain ⟨ac0,ac1,ac2,ac3,ac4,ac5,ac6⟩:=cells7 xa
    obtain ⟨bc0,bc1,bc2,bc3,bc4,bc5,bc6⟩:=cells7 xb
    obtain ⟨cc0,cc1,cc2,cc3,cc4,cc5,cc6⟩:=cells7 xc
    obtain ⟨dc0,dc1,dc2,dc3,dc4,dc5,dc6⟩:=cells7 xd
    obtain ⟨b1c0,b1c1,b1c2,b1c3,b1c4,b1c5,b1c6⟩:=cells7 xb1
    obtain ⟨pd0,pd1,pd2,pd3,pd4,pd5,pd6⟩:=deep1 xp
    obtain ⟨qd0,qd1,qd2,qd3,qd4,qd5,qd6⟩:=deep1 xq
    obtain ⟨ad0,ad1,ad2,ad3,ad4,ad5,ad6⟩:=deep1 xa
    obtain ⟨bd0,bd1,bd2,bd3,bd4,bd5,bd6⟩:=deep1 xb
    obtain ⟨cd0,cd1,cd2,cd3,cd4,cd5,cd6⟩:=deep1 xc
    obtain ⟨dd0,dd1,dd2,dd3,dd4,dd5,dd6⟩:=deep1 xd
    obtain ⟨b1d0,b1d1,b1d2,b1d3,b1d4,b1d5,b1d6⟩:=deep1 xb1
    go_wp2_with (fail)
    refine (same_at c X5 x5 X6 x6 G5 g5 G6 g6 _ oa (ra.below (by repeat (first | exact Below.refl _ _ | refine Below.setCell ?_ (by simp <;> omega) _ | refine Below.alloc ?_ (by simp <;> omega) _ | refine Below.drew ?_))) (rc.below (by repeat (first | exact Below.refl _ _ | refine Below.setCell ?_ (by simp <;> omega) _ | refine Below.alloc ?_ (by simp <;> omega) _ | refine Below.drew ?_)))).mono ?_
    rintro e w9 ⟨rfl,hb9⟩
    clear pc0 pc1 pc2 pc3 pc4 pc5 pc6 qc0 qc1 qc2 qc3 qc4 qc5 qc6 ac0 ac1 ac2 ac3 ac4 ac5 ac6 bc0 bc1 bc2 bc3 bc4 bc5 bc6 cc0 cc1 cc2 cc3 cc4 cc5 cc6 dc0 dc1 dc2 dc3 dc4 dc5 dc6 b1c0 b1c1 b1c2 b1c3 b1c4 b1c5 b1c6 pd0 pd1 pd2 pd3 pd4 pd5 pd6 qd0 qd1 qd2 qd3 qd4 qd5 qd6 ad0 ad1 ad2 ad3 ad4 ad5 ad6 bd0 bd1 bd2 bd3 bd4 bd5 bd6 cd0 cd1 cd2 cd3 cd4 cd5 cd6 dd0 dd1 dd2 dd3 dd4 dd5 dd6 b1d0 b1d1 b1d2 b1d3 b1d4 b1d5 b1d6
    have hs9 : Below w8.heap.size w8 w9:=two_steps (by repeat (first | exact Below.refl _ _ | refine Below.setCell ?_ (by simp <;> omega) _ | refine Below.alloc ?_ (by simp <;> omega) _ | refine Below.drew ?_)) hb9
    have hw9 : Below w.heap.size w w9:=hw8.trans (hs9.mono hw8.size)
    have xp:=blk_below xp hs9
    have xq:=blk_below xq hs9
    have xa:=blk_below xa hs9
    have xb:=blk_below xb hs9
    have xc:=blk_below xc hs9
    have xd:=blk_below xd hs9
    have xb1:=blk_below xb1 hs9
    have rp:=rp.below hs9
    have rq:=rq.below hs9
    have ra:=ra.below hs9
    have rb:=rb.below hs9
    have rc:=rc.below hs9
    have rd:=rd.below hs9
    have r1:=r1.below hs9
    have r2:=r2.below hs9
    have gl:=Kd.C_below gl hs9
    have gD1:=Kd.C_below gD1 hs9
    have gD2:=Kd.C_below gD2 hs9
    have xb2 : w9.heap[w8.heap.size]? = some (.cells #[.int .i64 pz.f0,.string pz.f1,.string pz.f2,.string pz.f3,.int .i64 pz.f4,.slice P25 pz.f5.length p25,.slice P26 pz.f6.length p26] 24 (0,0)):=blk_below (blk_new w8 _) hb9
    obtain ⟨pc0,pc1,pc2,pc3,pc4,pc5,pc6⟩:=cells7 xp
    obtain ⟨qc0,qc1,qc2,qc3,qc4,qc5,qc6⟩:=cells7 xq
    obtain ⟨ac0,ac1,ac2,ac3,ac4,ac5,ac6⟩:=cells7 xa
    obtain ⟨bc0,bc1,bc2,bc3,bc4,bc5,bc6⟩:=cells7 xb
    obtain ⟨cc0,cc1,cc2,cc3,cc4,cc5,cc6⟩:=cells7 xc
    obtain ⟨dc0,dc1,dc2,dc3,dc4,dc5,dc6⟩:=cells7 xd
    obtain ⟨b1c0,b1c1,b1c2,b1c3,b1c4,b1c5,b1c6⟩:=cells7 xb1
    obtain ⟨b2c0,b2c1,b2c2,b2c3,b2c4,b2c5,b2c6⟩:=cells7 xb2
    go_wp2_with (fail)
    refine (same_at d Y5 y5 Y6 y6 H5 h5 H6 h6 _ ob (rb.below (by repeat (first | exact Below.refl _ _ | refine Below.setCell ?_ (by simp <;> omega) _ | refine Below.alloc ?_ (by simp <;> omega) _ | refine Below.drew ?_))) (rd.below (by repeat (first | exact Below.refl _ _ | refine Below.setCell ?_ (by simp <;> omega) _ | refine Below.alloc ?_ (by simp <;> omega) _ | refine Below.drew ?_)))).mono ?_
    rintro e w10 ⟨rfl,hb10⟩
    clear pc0 pc1 pc2 pc3 pc4 pc5 pc6 qc0 qc1 qc2 qc3 qc4 qc5 qc6 ac0 ac1 ac2 ac3 ac4 ac5 ac6 bc0 bc1 bc2 bc3 bc4 bc5 bc6 cc0 cc1 cc2 cc3 cc4 cc5 cc6 dc0 dc1 dc2 dc3 dc4 dc5 dc6 b1c0 b1c1 b1c2 b1c3 b1c4 b1c5 b1c6 b2c0 b2c1 b2c2 b2c3 b2c4 b2c5 b2c6
    have hs10 : Below w9.heap.size w9 w10:=two_steps (by repeat (first | exact Below.refl _ _ | refine Below.setCell ?_ (by simp <;> omega) _ | refine Below.alloc ?_ (by simp <;> omega) _ | refine Below.drew ?_)) hb10
    have hw10 : Below w.heap.size w w10:=hw9.trans (hs10.mono hw9.size)
    have xp:=blk_below xp hs10
    have xq:=blk_below xq hs10
    have xa:=blk_below xa hs10
    have xb:=blk_below xb hs10
    have xc:=blk_below xc hs10
    have xd:=blk_below xd hs10
    have xb1:=blk_below xb1 hs10
    have xb2:=blk_below xb2 hs10
    have rp:=rp.below hs10
    have rq:=rq.below hs10
    have ra:=ra.below hs10
    have rb:=rb.below hs10
    have rc:=rc.below hs10
    have rd:=rd.below hs10
    have r1:=r1.below hs10
    have r2:=r2.below hs10
    have gl:=Kd.C_below gl hs10
    have gD1:=Kd.C_below gD1 hs10
    have gD2:=Kd.C_below gD2 hs10
    obtain ⟨pc0,pc1,pc2,pc3,pc4,pc5,pc6⟩:=cells7 xp
    obtain ⟨qc0,qc1,qc2,qc3,qc4,qc5,qc6⟩:=cells7 xq
    obtain ⟨ac0,ac1,ac2,ac3,ac4,ac5,ac6⟩:=cells7 xa
    obtain ⟨bc0,bc1,bc2,bc3,bc4,bc5,bc6⟩:=cells7 xb
    obtain ⟨cc0,cc1,cc2,cc3,cc4,cc5,cc6⟩:=cells7 xc
    obtain ⟨dc0,dc1,dc2,dc3,dc4,dc5,dc6⟩:=cells7 xd
    obtain ⟨b1c0,b1c1,b1c2,b1c3,b1c4,b1c5,b1c6⟩:=cells7 xb1
    obtain ⟨b2c0,b2c1,b2c2,b2c3,b2c4,b2c5,b2c6⟩:=cells7 xb2
    go_wp2_with (fail)
    refine (sameList_at py D1 d1 D2 d2 _ ny.out oy.out (Kd.C_below gD1 (by repeat (first | exact Below.refl _ _ | refine Below.setCell ?_ (by simp <;> omega) _ | refine Below.alloc ?_ (by simp <;> omega) _ | refine Below.drew ?_))) hD1 (Kd.C_below gD2 (by repeat (first | exact Below.refl _ _ | refine Below.setCell ?_ (by simp <;> omega) _ | refine Below.alloc ?_ (by simp <;> omega) _ | refine Below.drew ?_))) hD2).mono ?_
    rintro e w11 ⟨rfl,hb11⟩
    clear pc0 pc1 pc2 pc3 pc4 pc5 pc6 qc0 qc1 qc2 qc3 qc4 qc5 qc6 ac0 ac1 ac2 ac3 ac4 ac5 ac6 bc0 bc1 bc2 bc3 bc4 bc5 bc6 cc0 cc1 cc2 cc3 cc4 cc5 cc6 dc0 dc1 dc2 dc3 dc4 dc5 dc6 b1c0 b1c1 b1c2 b1c3 b1c4 b1c5 b1c6 b2c0 b2c1 b2c2 b2c3 b2c4 b2c5 b2c6
    have hs11 : Below w10.heap.size w10 w11:=two_steps (by repeat (first | exact Below.refl _ _ | refine Below.setCell ?_ (by simp <;> omega) _ | refine Below.alloc ?_ (by simp <;> omega) _ | refine Below.drew ?_)) hb11
    have hw11 : Below w.heap.size w w11:=hw10.trans (hs11.mono hw10.size)
    have xp:=blk_below xp hs11
    have xq:=blk_below xq hs11
    have xa:=blk_below xa hs11
    have xb:=blk_below xb hs11
    have xc:=blk_below xc hs11
    have xd:=blk_below xd hs11
    have xb1:=blk_below xb1 hs11
    have xb2:=blk_below xb2 hs11
    have rp:=rp.below hs11
    have rq:=rq.below hs11
    have ra:=ra.below hs11
    have rb:=rb.below hs11
    have rc:=rc.below hs11
    have rd:=rd.below hs11
    have r1:=r1.below hs11
    have r2:=r2.below hs11
    have gl:=Kd.C_below gl hs11
    have gD1:=Kd.C_below gD1 hs11
    have gD2:=Kd.C_below gD2 hs11
    obtain ⟨pc0,pc1,pc2,pc3,pc4,pc5,pc6⟩:=cells7 xp
    obtain ⟨qc0,qc1,qc2,qc3,qc4,qc5,qc6⟩:=cells7 xq
    obtain ⟨ac0,ac1,ac2,ac3,ac4,ac5,ac6⟩:=cells7 xa
    obtain ⟨bc0,bc1,bc2,bc3,bc4,bc5,bc6⟩:=cells7 xb
    obtain ⟨cc0,cc1,cc2,cc3,cc4,cc5,cc6⟩:=cells7 xc
    obtain ⟨dc0,dc1,dc2,dc3,dc4,dc5,dc6⟩:=cells7 xd
    obtain ⟨b1c0,b1c1,b1c2,b1c3,b1c4,b1c5,b1c6⟩:=cells7 xb1
    obtain ⟨b2c0,b2c1,b2c2,b2c3,b2c4,b2c5,b2c6⟩:=cells7 xb2
    go_wp2_with (fail)
    refine (same_at pz P15 p15 P16 p16 P25 p25 P26 p26 _ oz (r1.below (by repeat (first | exact Below.refl _ _ | refine Below.setCell ?_ (by simp <;> omega) _ | refine Below.alloc ?_ (by simp <;> omega) _ | refine Below.drew ?_))) (r2.below (by repeat (first | exact Below.refl _ _ | refine Below.setCell ?_ (by simp <;> omega) _ | refine Below.alloc ?_ (by simp <;> omega) _ | refine Below.drew ?_)))).mono ?_
    rintro e w12 ⟨rfl,hb12⟩
    clear pc0 pc1 pc2 pc3 pc4 pc5 pc6 qc0 qc1 qc2 qc3 qc4 qc5 qc6 ac0 ac1 ac2 ac3 ac4 ac5 ac6 bc0 bc1 bc2 bc3 bc4 bc5 bc6 cc0 cc1 cc2 cc3 cc4 cc5 cc6 dc0 dc1 dc2 dc3 dc4 dc5 dc6 b1c0 b1c1 b1c2 b1c3 b1c4 b1c5 b1c6 b2c0 b2c1 b2c2 b2c3 b2c4 b2c5 b2c6
    have hs12 : Below w11.heap.size w11 w12:=two_steps (by repeat (first | exact Below.refl _ _ | refine Below.setCell ?_ (by simp <;> omega) _ | refine Below.alloc ?_ (by simp <;> omega) _ | refine Below.drew ?_)) hb12
    have hw12 : Below w.heap.size w w12:=hw11.trans (hs12.mono hw11.size)
    have xp:=blk_below xp hs12
    have xq:=blk_below xq hs12
    have xa:=blk_below xa hs12
    have xb:=blk_below xb hs12
    have xc:=blk_below xc hs12
    have xd:=blk_below xd hs12
    have xb1:=blk_below xb1 hs12
    have xb2:=blk_below xb2 hs12
    have rp:=rp.below hs12
    have rq:=rq.below hs12
    have ra:=ra.below hs12
    have rb:=rb.below hs12
    have rc:=rc.below hs12
    have rd:=rd.below hs12
    have r1:=r1.below hs12
    have r2:=r2.below hs12
    have gl:=Kd.C_below gl hs12
    have gD1:=Kd.C_below gD1 hs12
    have gD2:=Kd.C_below gD2 hs12
    obtain ⟨pc0,pc1,pc2,pc3,pc4,pc5,pc6⟩:=cells7 xp
    obtain ⟨qc0,qc1,qc2,qc3,qc4,qc5,qc6⟩:=cells7 xq
    obtain ⟨ac0,ac1,ac2,ac3,ac4,ac5,ac6⟩:=cells7 xa
    obtain ⟨bc0,bc1,bc2,bc3,bc4,bc5,bc6⟩:=cells7 xb
    obtain ⟨cc0,cc1,cc2,cc3,cc4,cc5,cc6⟩:=cells7 xc
    obtain ⟨dc0,dc1,dc2,dc3,dc4,dc5,dc6⟩:=cells7 xd
    obtain ⟨b1c0,b1c1,b1c2,b1c3,b1c4,b1c5,b1c6⟩:=cells7 xb1
    obtain ⟨b2c0,b2c1,b2c2,b2c3,b2c4,b2c5,b2c6⟩:=cells7 xb2
    go_wp2
    go_ret
    exact ⟨rfl,by repeat (first | with_reducible exact hw12 | refine Below.setCell ?_ (by have:=hw12.size; simp <;> omega) _ | refine Below.alloc ?_ (by have:=hw12.size; simp <;> omega) _ | refine Below.drew ?_)⟩
end Go.Proofs.YthhohbidjhcjeaaDoor.H
