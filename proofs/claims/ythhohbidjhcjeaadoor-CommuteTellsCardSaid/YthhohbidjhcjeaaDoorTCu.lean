/- The contract of the reference's Commute. -/
import Derived.Test.YthhohbidjhcjeaaDoorTCr
import Derived.Test.YthhohbidjhcjeaaDoorTCi
namespace Go.Proofs.YthhohbidjhcjeaaDoor.H
open Go.RowKit Go.Proofs.YthhohbidjhcjeaaDoorW.PrintWords Go.Proofs.YthhohbidjhcjeaaDoorW.PrintLast Go.Proofs.YthhohbidjhcjeaaDoorW.PrintMore
open Go.Proofs.YthhohbidjhcjeaaDoor.Q Go.Proofs.YthhohbidjhcjeaaDoor.Pl

theorem lines_or (p q : S24) : ∃ u v r,refLines p q = ({ q with f4:=u },{ p with f4:=v },r):=by
 unfold refLines
 split
 ·exact ⟨_,p.f4,_,rfl⟩
 ·split
  ·exact ⟨q.f4,_,_,rfl⟩
  ·exact ⟨q.f4,p.f4,_,rfl⟩
theorem step_keep {p q a b : S24} {r : Bool} (h : refStep p q = (b,a,r)) : b = { p with f1:=b.f1,f4:=b.f4 } ∧ a = { q with f1:=a.f1,f4:=a.f4 }:=by
 obtain ⟨u,v,s,hl⟩:=lines_or p q
 unfold refStep at h
 rw [hl] at h
 repeat' split at h
 all_goals
  obtain ⟨rfl,rfl,-⟩:=prod3 h
  exact ⟨rfl,rfl⟩
theorem step_f1 {p q : S24} (hp : primB p = true) (hq : primB q = true) : (refStep p q).1.f1.size ≤ 272 ∧ (refStep p q).2.1.f1.size ≤ 272:=by
 have h1:=prim_f1 hp
 have h2:=prim_f1 hq
 have z : ∀ r : S24 × S24 × Bool,r.1.f1 = p.f1 ∧ r.2.1.f1 = q.f1 → r.1.f1.size ≤ 272 ∧ r.2.1.f1.size ≤ 272:=fun r h => by rw [h.1,h.2]; omega
 obtain ⟨u,v,s,hl⟩:=lines_or p q
 unfold refStep
 rw [hl]
 split
 ·exact z _ ⟨rfl,rfl⟩
 ·split
  ·exact z _ ⟨rfl,rfl⟩
  ·split
   ·refine ⟨by show p.f1.size ≤ _; omega,?_⟩
    have:=carry_size q.f1 p.f2 p.f1
    show (carryS q.f1 p.f2 p.f1).1.size ≤ _
    omega
   ·split
    ·rename_i hc
     refine ⟨?_,by show q.f1.size ≤ _; omega⟩
     have:=carry_size p.f1 q.f1 q.f2
     have:=prim_f2 hq hc.2
     show (carryS p.f1 q.f1 q.f2).1.size ≤ _
     omega
    ·repeat' split
     all_goals exact z _ ⟨rfl,rfl⟩
theorem okq_step {p q a b : S24} {r : Bool} (h : refStep p q = (b,a,r)) (hp : primB p = true) (hq : primB q = true) (sp : Okq p) (sq : Okq q) : Okq b ∧ Okq a:=by
 have hf:=step_f1 hp hq
 rw [h] at hf
 obtain ⟨h1,h2⟩:=step_keep h
 obtain ⟨f1,f2⟩:=hf
 dsimp only at f1 f2
 constructor
 ·rw [h1]
  exact ⟨⟨sp.ok.ok,by show b.f1.size ≤ _; omega,sp.ok.s2,sp.ok.s3⟩,sp.l5,sp.l6⟩
 ·rw [h2]
  exact ⟨⟨sq.ok.ok,by show a.f1.size ≤ _; omega,sq.ok.s2,sq.ok.s3⟩,sq.l5,sq.l6⟩
/-- The reference's Commute, of two patches whose cells are known. -/
theorem rcomm_at (p q : S24) (A5 : Option Addr) (c5 : Nat) (A6 : Option Addr) (c6 : Nat) (B5 : Option Addr) (d5 : Nat) (B6 : Option Addr) (d6 : Nat) (w : World) (hp : Okq p) (hq : Okq q) (rp : Rd w p A5 c5 A6 c6) (rq : Rd w q B5 d5 B6 d6) :
  Calls Tryd.prog 25 #[.agg (cs p A5 c5 A6 c6),.agg (cs q B5 d5 B6 d6)] w fun e w' => ((comm p q = (z24,z24,false) ∧ e = .returned (.tuple #[.agg zeroC,.agg zeroC,.bool false])) ∨ ∃ a b,Yes p q a b ∧ e = .returned (.tuple #[.agg (cs a B5 d5 B6 d6),.agg (cs b A5 c5 A6 c6),.bool true])) ∧ Below w.heap.size w w':=by
 cases bp : primB p with
 | false =>
  refine (rcomm_np p q A5 c5 A6 c6 B5 d5 B6 d6 w hp hq rp rq bp).mono ?_
  rintro e w' ⟨rfl,hb⟩
  exact ⟨.inl ⟨if_neg (fun h => by rw [h.1] at bp; cases bp),rfl⟩,hb⟩
 | true =>
  cases bq : primB q with
  | false =>
   refine (rcomm_nq p q A5 c5 A6 c6 B5 d5 B6 d6 w hp hq rp rq bp bq).mono ?_
   rintro e w' ⟨rfl,hb⟩
   exact ⟨.inl ⟨if_neg (fun h => by rw [h.2.1] at bq; cases bq),rfl⟩,hb⟩
  | true =>
   obtain ⟨b,a,r,hr⟩ : ∃ b a r,refStep p q = (b,a,r):=⟨_,_,_,rfl⟩
   obtain ⟨ob,oa⟩:=okq_step hr bp bq hp hq
   obtain ⟨kb,ka⟩:=step_keep hr
   have rb : Rd w b A5 c5 A6 c6:=rp.of (by rw [kb]) (by rw [kb])
   have ra : Rd w a B5 d5 B6 d6:=rq.of (by rw [ka]) (by rw [ka])
   have hc:=refComm_eq hp.ok.ok hq.ok.ok
   unfold refComm at hc
   rw [hr] at hc
   obtain ⟨x,hx⟩ : ∃ x,primB b = x:=⟨_,rfl⟩
   obtain ⟨y,hy⟩ : ∃ y,primB a = y:=⟨_,rfl⟩
   refine (rcomm_in p q A5 c5 A6 c6 B5 d5 B6 d6 w hp hq rp rq bp bq (prim_f1 bp) (prim_f1 bq) (fun h => prim_f2 bq h) b a r x y hr ob oa rb ra hx hy).mono ?_
   intro e w' hP
   have hno : (r = true ∧ x = true ∧ y = true → False) → comm p q = (z24,z24,false):=fun hn => by
    rw [← hc]
    exact if_neg (fun h => hn ⟨h.2.2.1,hx.symm.trans h.2.2.2.1,hy.symm.trans h.2.2.2.2⟩)
   cases r with
   | false => exact ⟨.inl ⟨hno (fun h => by cases h.1),hP.1⟩,hP.2⟩
   | true =>
    cases x with
    | false => exact ⟨.inl ⟨hno (fun h => by cases h.2.1),hP.1⟩,hP.2⟩
    | true =>
     cases y with
     | false => exact ⟨.inl ⟨hno (fun h => by cases h.2.2),hP.1⟩,hP.2⟩
     | true =>
      have hcy : comm p q = (a,b,true):=hc.symm.trans (if_pos ⟨bp,bq,rfl,hx,hy⟩)
      rcases comm_or p q with h | ⟨a',b',h1,h2⟩
      ·rw [h] at hcy
       cases hcy
      ·obtain ⟨e1,e2,-⟩:=prod3 (h2.symm.trans hcy)
       subst e1 e2
       exact ⟨.inr ⟨a',b',h1,hP.1⟩,hP.2⟩
theorem rcomm_is {a b : S24} (p q : S24) (A5 : Option Addr) (c5 : Nat) (A6 : Option Addr) (c6 : Nat) (B5 : Option Addr) (d5 : Nat) (B6 : Option Addr) (d6 : Nat) (w : World) (hp : Okq p) (hq : Okq q) (rp : Rd w p A5 c5 A6 c6) (rq : Rd w q B5 d5 B6 d6) (hy : Yes p q a b) :
  Calls Tryd.prog 25 #[.agg (cs p A5 c5 A6 c6),.agg (cs q B5 d5 B6 d6)] w fun e w' => e = .returned (.tuple #[.agg (cs a B5 d5 B6 d6),.agg (cs b A5 c5 A6 c6),.bool true]) ∧ Below w.heap.size w w':=by
 refine (rcomm_at p q A5 c5 A6 c6 B5 d5 B6 d6 w hp hq rp rq).mono ?_
 rintro e w' ⟨⟨hn,rfl⟩ | ⟨c,d,h2,rfl⟩,hb⟩
 ·rw [comm_of hy] at hn
  cases hn
 ·obtain ⟨rfl,rfl,-⟩:=prod3 ((comm_of h2).symm.trans (comm_of hy))
  exact ⟨rfl,hb⟩
theorem rcomm_not (p q : S24) (A5 : Option Addr) (c5 : Nat) (A6 : Option Addr) (c6 : Nat) (B5 : Option Addr) (d5 : Nat) (B6 : Option Addr) (d6 : Nat) (w : World) (hp : Okq p) (hq : Okq q) (rp : Rd w p A5 c5 A6 c6) (rq : Rd w q B5 d5 B6 d6) (hn : comm p q = (z24,z24,false)) :
  Calls Tryd.prog 25 #[.agg (cs p A5 c5 A6 c6),.agg (cs q B5 d5 B6 d6)] w fun e w' => e = .returned (.tuple #[.agg zeroC,.agg zeroC,.bool false]) ∧ Below w.heap.size w w':=by
 refine (rcomm_at p q A5 c5 A6 c6 B5 d5 B6 d6 w hp hq rp rq).mono ?_
 rintro e w' ⟨⟨_,rfl⟩ | ⟨c,d,h2,rfl⟩,hb⟩
 ·exact ⟨rfl,hb⟩
 ·rw [comm_of h2] at hn
  cases hn
end Go.Proofs.YthhohbidjhcjeaaDoor.H
