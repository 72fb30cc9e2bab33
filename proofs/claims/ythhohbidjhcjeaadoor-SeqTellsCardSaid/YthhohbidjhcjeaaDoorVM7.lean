/- The reference's Join of two neighbours. -/
import Derived.Test.YthhohbidjhcjeaaDoorVM6
import Derived.Test.YthhohbidjhcjeaaDoorVM3
import Derived.Test.YthhohbidjhcjeaaDoorVM2
import Derived.Test.YthhohbidjhcjeaaDoorRows
import Derived.Test.YthhohbidjhcjeaaDoorCards
import Derived.Test.YthhohbidjhcjeaaDoorTie
import Derived.WalkKit
import Derived.ProofKit
import Derived.OpenShut
import Derived.ShutString
import Derived.ChangeOld
import Derived.Below
import Derived.SizedLaws
import Derived.Lay
import Derived.LaidOnce
import Derived.LaidMore
import Derived.SevenTiedAt
namespace Go.Proofs.YthhohbidjhcjeaaDoor.H
open Go.RowKit Go.Proofs.YthhohbidjhcjeaaDoorW.PrintWords Go.Proofs.YthhohbidjhcjeaaDoorW.PrintLast Go.Proofs.YthhohbidjhcjeaaDoorW.PrintMore
open Go.Proofs.YthhohbidjhcjeaaDoor.Q Go.Proofs.YthhohbidjhcjeaaDoor.Pl
set_option linter.unusedVariables false
set_option linter.unusedSimpArgs false
/-- Three boxes: the two patches, and the answer's. -/
structure S3 (w : World) (cp cq : Array Value) (W : World) : Prop where
 p : W.heap[w.heap.size]? = some (.cells cp 24 (0,0))
 q : W.heap[w.heap.size + 1]? = some (.cells cq 24 (0,0))
 r : W.heap[w.heap.size + 1 + 1]? = some (.cells zeroC 24 (0,0))
 below : Below w.heap.size w W
theorem S3.start (w : World) (cp cq : Array Value) : S3 w cp cq (((w.alloc (.cells cp 24)).alloc (.cells cq 24)).alloc (.cells zeroC 24)) :=
 ⟨blk_alloc (box1 w _ _) _,blk_alloc (box2 w _ _) _,by have h:=blk_new ((w.alloc (.cells cp 24)).alloc (.cells cq 24)) (.cells zeroC 24); simpa using h,(((Below.refl _ w).alloc (Nat.le_refl _) _).alloc (by simp) _).alloc (by simp; omega) _⟩
theorem S3.later {w W W' : World} {cp cq : Array Value} (h : S3 w cp cq W) (hb : Below W.heap.size W W') : S3 w cp cq W':=⟨blk_below h.p hb,blk_below h.q hb,blk_below h.r hb,h.below.trans (hb.mono h.below.size)⟩
theorem Rd.s3 {w W : World} {cp cq : Array Value} {x : S24} {A5 : Option Addr} {c5 : Nat} {A6 : Option Addr} {c6 : Nat} (h : Rd w x A5 c5 A6 c6) (hst : S3 w cp cq W) : Rd W x A5 c5 A6 c6:=h.below hst.below
theorem rright_s3 (w : World) (x : S24) (A5 : Option Addr) (c5 : Nat) (A6 : Option Addr) (c6 : Nat) {W : World} {cp cq : Array Value} (hx : Okq x) (hr : Rd w x A5 c5 A6 c6) (h : S3 w cp cq W) :
  Calls Tryd.prog 54 #[.agg (cs x A5 c5 A6 c6)] W fun e W' => e = .returned (.bool (primB x)) ∧ S3 w cp cq W':=(rright_at x A5 c5 A6 c6 W hx (hr.s3 h)).mono (fun _ _ ⟨he,hb⟩ => ⟨he,h.later hb⟩)
theorem rapart_s3 (w : World) (a b : ByteArray) {W : World} {cp cq : Array Value} (h : S3 w cp cq W) : Calls Tryd.prog 28 #[.string a,.string b] W fun e W' => e = .returned (.bool (apartB a b)) ∧ S3 w cp cq W' :=
 (counterpaneref04_Apart.calls _ _ _ W (refApart_f a b)).mono (fun _ _ ⟨he,hb⟩ => ⟨he,h.later hb.below⟩)
theorem rsame_at (x y : S24) (A5 : Option Addr) (c5 : Nat) (A6 : Option Addr) (c6 : Nat) (B5 : Option Addr) (d5 : Nat) (B6 : Option Addr) (d6 : Nat) (w : World) (hx : Okp x) (rx : Rd w x A5 c5 A6 c6) (ry : Rd w y B5 d5 B6 d6) :
  Calls Tryd.prog 20 #[.agg (cs x A5 c5 A6 c6),.agg (cs y B5 d5 B6 d6)] w fun e w' => e = .returned (.bool (eqS x y)) ∧ Below w.heap.size w w':=by
 obtain ⟨r,hr,hj⟩:=same08 x y hx.ok
 obtain rfl : r = eqS x y:=by rw [Bool.eq_iff_iff,hj,eqS_iff]
 obtain ⟨k,hk⟩:=hr.rounds
 exact counterpaneref08_Same.calls k _ _ _ _ _ _ _ _ _ _ _ _ _ _ _ _ _ _ _ _ _ _ _ w rx.g5 rx.l5 rx.g6 rx.l6 ry.g5 ry.l5 ry.g6 ry.l6 hk
theorem requal_s3 (w : World) (a b : List ByteArray) (A : Option Addr) (c : Nat) (B : Option Addr) (d : Nat) {W : World} {cp cq : Array Value} (hn : a.length ≤ 140737488355328) (ga : Kd.C Kd.string w A a.length a) (la : a.length ≤ c) (gb : Kd.C Kd.string w B b.length b) (lb : b.length ≤ d) (h : S3 w cp cq W) :
  Calls Tryd.prog 50 #[.slice A a.length c,.slice B b.length d] W fun e W' => e = .returned (.bool (eqL a b)) ∧ S3 w cp cq W':=by
 obtain ⟨r,hr,hj⟩:=same05 a b hn
 obtain rfl : r = eqL a b:=by rw [Bool.eq_iff_iff,hj,eqL_iff]
 obtain ⟨k,hk⟩:=hr.rounds
 exact (counterpaneref05_Same.calls k A c a B d b _ W (Kd.C_below ga h.below) la (Kd.C_below gb h.below) lb hk).mono (fun _ _ ⟨he,hb⟩ => ⟨he,h.later (by first | exact hb | exact hb.below)⟩)
/-- refJoin with its tests as Bools. -/
def refJoinB (p q : S24) : S24 × Int × Bool :=
 if (primB p && primB q) = true then
  if eqS (invS p) q = true then (z24,0,true)
  else if (p.f0 == q.f0) = true then
   (if ((p.f0 == 9) && (p.f1.toList == q.f1.toList) && (q.f3.toList == p.f2.toList)) = true then (⟨9,p.f1,q.f2,p.f3,0,[],[]⟩,1,true)
   else if ((p.f0 == 7) && (p.f1.toList == q.f1.toList) && (p.f4 == q.f4) && eqL p.f6 q.f5) = true then (⟨7,p.f1,⟨#[]⟩,⟨#[]⟩,p.f4,p.f5,q.f6⟩,1,true)
   else if ((p.f0 == 10) && (q.f1.toList == p.f2.toList) && apartB p.f1 q.f2) = true then (⟨10,p.f1,q.f2,⟨#[]⟩,0,[],[]⟩,1,true)
   else (z24,0,false))
  else (z24,0,false)
 else (z24,0,false)
theorem refJoinB_eq (p q : S24) : refJoin p q = refJoinB p q:=by
 unfold refJoin refJoinB
 simp only [Bool.and_eq_true,beq_iff_eq,and_assoc,ite_not]
/-- What the reference's Join hands back. -/
def RJ (w0 w : World) (r : S24 × Int × Bool) (e : Ending) (w' : World) : Prop :=
 ∃ C5 e5 C6 e6,e = .returned (.tuple #[.agg (cs r.1 C5 e5 C6 e6),.int .i64 r.2.1,.bool r.2.2]) ∧ Rd w0 r.1 C5 e5 C6 e6 ∧ Below w.heap.size w w'
theorem ret75 {tmps : Array Value} {W : World} {g : Nat} {y0 y1 y2 y3 y4 y5 y6 v r : Value} (h4 : tmps[4]? = some (.pointer (some ⟨g,0,none⟩))) (h5 : tmps[5]? = some v) (h6 : tmps[6]? = some r)
  (hy : W.heap[g]? = some (.cells #[y0,y1,y2,y3,y4,y5,y6] 24 (0,0))) :
  (results Tryd.f75 tmps).run Tryd.prog W = .ok (.tuple #[.agg #[y0,y1,y2,y3,y4,y5,y6],v,r]) W:=by
 have yc0 : W.cell? ⟨g,0,none⟩ = some y0:=(blk_cell hy 0).trans rfl
 have yc1 : W.cell? ⟨g,1,none⟩ = some y1:=(blk_cell hy 1).trans rfl
 have yc2 : W.cell? ⟨g,2,none⟩ = some y2:=(blk_cell hy 2).trans rfl
 have yc3 : W.cell? ⟨g,3,none⟩ = some y3:=(blk_cell hy 3).trans rfl
 have yc4 : W.cell? ⟨g,4,none⟩ = some y4:=(blk_cell hy 4).trans rfl
 have yc5 : W.cell? ⟨g,5,none⟩ = some y5:=(blk_cell hy 5).trans rfl
 have yc6 : W.cell? ⟨g,6,none⟩ = some y6:=(blk_cell hy 6).trans rfl
 simp [results,Tryd.results75,go_sem, *]
set_option maxHeartbeats 16000000 in
set_option maxRecDepth 100000 in
theorem rjoin_at (p q : S24) (A5 : Option Addr) (c5 : Nat) (A6 : Option Addr) (c6 : Nat) (B5 : Option Addr) (d5 : Nat) (B6 : Option Addr) (d6 : Nat) (w : World) (w0 : World) (hw0 : Below w0.heap.size w0 w) (hp : Okq p) (hq : Okq q) (rp0 : Rd w0 p A5 c5 A6 c6) (rq0 : Rd w0 q B5 d5 B6 d6) :
  Calls Tryd.prog 75 #[.agg #[.int .i64 p.f0,.string p.f1,.string p.f2,.string p.f3,.int .i64 p.f4,.slice A5 p.f5.length c5,.slice A6 p.f6.length c6],.agg #[.int .i64 q.f0,.string q.f1,.string q.f2,.string q.f3,.int .i64 q.f4,.slice B5 q.f5.length d5,.slice B6 q.f6.length d6]] w (RJ w0 w (refJoin p q)):=by
 have rp:=rp0.below hw0
 have rq:=rq0.below hw0
 have hst:=S3.start w #[.int .i64 p.f0,.string p.f1,.string p.f2,.string p.f3,.int .i64 p.f4,.slice A5 p.f5.length c5,.slice A6 p.f6.length c6] #[.int .i64 q.f0,.string q.f1,.string q.f2,.string q.f3,.int .i64 q.f4,.slice B5 q.f5.length d5,.slice B6 q.f6.length d6]
 obtain ⟨x1,bp⟩ : ∃ x,primB p = x:=⟨_,rfl⟩
 obtain ⟨x2,bq⟩ : ∃ x,primB q = x:=⟨_,rfl⟩
 have Bp:=Aside0.mk bp
 have Bq:=Aside0.mk bq
 clear bp bq
 go_enter Tryd.func75,Tryd.ntmps75
 go_wp2_with (fail)
 refine (rright_s3 _ p A5 c5 A6 c6 hp rp hst).mono ?_
 rintro e w1 ⟨rfl,hst⟩
 rw [Bp.out]
 obtain ⟨pc0,pc1,pc2,pc3,pc4,pc5,pc6⟩:=cells7 hst.p
 obtain ⟨qc0,qc1,qc2,qc3,qc4,qc5,qc6⟩:=cells7 hst.q
 cases x1 with
 | false =>
  obtain ⟨rc0,rc1,rc2,rc3,rc4,rc5,rc6⟩:=cells7 hst.r
  obtain ⟨rf0,rf1,rf2,rf3,rf4,rf5,rf6⟩:=frozen7 hst.r
  go_wp2
  have hj : refJoin p q = (z24,0,false):=by rw [refJoinB_eq]; unfold refJoinB; simp only [Bp.out,Bool.and_self,Bool.true_and,Bool.false_and,Bool.and_true,Bool.and_false,if_true,if_false,Bool.false_eq_true,reduceIte]
  rw [hj]
  clear hj
  refine bodyPost_ret (ret75 (g:=w.heap.size + 1 + 1) (y0:=.int .i64 0) (y1:=.string ⟨#[]⟩) (y2:=.string ⟨#[]⟩) (y3:=.string ⟨#[]⟩) (y4:=.int .i64 0) (y5:=.slice none 0 0) (y6:=.slice none 0 0) rfl rfl rfl ?_) rfl ?_
  ·exact set7 hst.r rfl _ _ _ _ _ _ _
  ·exact ⟨none,0,none,0,rfl,rd_none _ _ rfl rfl,below7 hst.below (by omega) _ _ _ _ _ _ _⟩
 | true =>
  go_wp2_with (fail)
  refine (rright_s3 _ q B5 d5 B6 d6 hq rq hst).mono ?_
  clear pc0 pc1 pc2 pc3 pc4 pc5 pc6 qc0 qc1 qc2 qc3 qc4 qc5 qc6
  rintro e w2 ⟨rfl,hst⟩
  rw [Bq.out]
  obtain ⟨pc0,pc1,pc2,pc3,pc4,pc5,pc6⟩:=cells7 hst.p
  obtain ⟨qc0,qc1,qc2,qc3,qc4,qc5,qc6⟩:=cells7 hst.q
  cases x2 with
  | false =>
   obtain ⟨rc0,rc1,rc2,rc3,rc4,rc5,rc6⟩:=cells7 hst.r
   obtain ⟨rf0,rf1,rf2,rf3,rf4,rf5,rf6⟩:=frozen7 hst.r
   go_wp2
   have hj : refJoin p q = (z24,0,false):=by rw [refJoinB_eq]; unfold refJoinB; simp only [Bp.out,Bq.out,Bool.and_self,Bool.true_and,Bool.false_and,Bool.and_true,Bool.and_false,if_true,if_false,Bool.false_eq_true,reduceIte]
   rw [hj]
   clear hj
   refine bodyPost_ret (ret75 (g:=w.heap.size + 1 + 1) (y0:=.int .i64 0) (y1:=.string ⟨#[]⟩) (y2:=.string ⟨#[]⟩) (y3:=.string ⟨#[]⟩) (y4:=.int .i64 0) (y5:=.slice none 0 0) (y6:=.slice none 0 0) rfl rfl rfl ?_) rfl ?_
   ·exact set7 hst.r rfl _ _ _ _ _ _ _
   ·exact ⟨none,0,none,0,rfl,rd_none _ _ rfl rfl,below7 hst.below (by omega) _ _ _ _ _ _ _⟩
  | true =>
   have tp:=Aside0.mk (rt_of Bp.out)
   go_upto_region 3 with (fail)
   clear pc0 pc1 pc2 pc3 pc4 pc5 pc6 qc0 qc1 qc2 qc3 qc4 qc5 qc6
   obtain ⟨al,hal⟩ : ∃ b,eqS (invS p) q = b:=⟨_,rfl⟩
   have Al:=Aside0.mk hal
   clear hal
   have hst0:=Aside0.mk hst
   go_cut [19] from 16 to 18 (fun v19 w' => v19 = .bool al ∧ Aside0 (S3 w #[.int .i64 p.f0,.string p.f1,.string p.f2,.string p.f3,.int .i64 p.f4,.slice A5 p.f5.length c5,.slice A6 p.f6.length c6] #[.int .i64 q.f0,.string q.f1,.string q.f2,.string q.f3,.int .i64 q.f4,.slice B5 q.f5.length d5,.slice B6 q.f6.length d6] w'))
   case first =>
    refine wp_region_held_drew (S:=fun W => Below w2.heap.size w2 W) (by kernel_rfl) (below_drew (Below.refl _ _)) (fun _ => ?_)
    have hS:=below_drew (Below.refl w2.heap.size w2)
    generalize World.drew w2 = W at hS ⊢
    refine tkH (v:=?_) 0 (some 16) rfl rfl (by kernel_rfl) (by kernel_rfl) (fun _ _ _ h => h) (fun W' hSW => ?_) hS ?_
    rotate_left
    ·obtain ⟨k0,k1,k2,k3,k4,k5,k6⟩:=cells7 (S3.later hst0.out hSW).p; go_simp; (try with_reducible rfl)
    simp only [Act.put,List.setIfInBounds_toArray,List.set_cons_zero,List.set_cons_succ]
    refine tkH (v:=?_) 2 (some 18) rfl rfl (by kernel_rfl) (by kernel_rfl) (fun _ _ _ h => h) (fun W' hSW => ?_) hS ?_
    rotate_left
    ·obtain ⟨k0,k1,k2,k3,k4,k5,k6⟩:=cells7 (S3.later hst0.out hSW).q; go_simp; (try with_reducible rfl)
    simp only [Act.put,List.setIfInBounds_toArray,List.set_cons_zero,List.set_cons_succ]
    refine wpAnyH_ready (rs:=[1]) (by kernel_rfl) (by simp) (AllReadyH.cons rfl (fun K hK => ?_) AllReadyH.nil)
    go_simp
    refine (inv_ex p tp.out.lo tp.out.hi A5 c5 A6 c6 W).mono ?_
    rintro e W1 ⟨rfl,hb⟩
    have ri:=(rd_inv tp.out.lo tp.out.hi ((rp.s3 hst0.out).below (hS.trans (hb.mono hS.size))))
    replace hS:=hS.trans (hb.mono hS.size)
    clear hb
    refine hK.out _ _ hS (fun _ => ?_)
    clear hK K
    refine wpAnyH_ready (rs:=[3]) (by kernel_rfl) (by simp) (AllReadyH.cons rfl (fun K hK => ?_) AllReadyH.nil)
    go_simp
    refine (rsame_at (invS p) q _ _ _ _ B5 d5 B6 d6 _ (okp_inv hp.ok) ri ((rq.s3 hst0.out).below hS)).mono ?_
    rw [Al.out]
    rintro e W2 ⟨rfl,hb⟩
    replace hS:=hS.trans (hb.mono hS.size)
    clear hb
    refine hK.out _ _ hS (fun _ => ?_)
    clear hK K
    refine wpAnyH_done (by kernel_rfl) ?_ _
    go_wp2
    go_meet
    case rel => exact ⟨rfl,⟨hst0.out.later hS⟩⟩
   case rest =>
    clear hst0 hst
    obtain ⟨rfl,hS⟩:=hcut
    have hst:=hS.out
    clear hS
    cases al with
    | true =>
     obtain ⟨rc0,rc1,rc2,rc3,rc4,rc5,rc6⟩:=cells7 hst.r
     obtain ⟨rf0,rf1,rf2,rf3,rf4,rf5,rf6⟩:=frozen7 hst.r
     go_wp2
     have hj : refJoin p q = (z24,0,true):=by rw [refJoinB_eq]; unfold refJoinB; simp only [Bp.out,Bq.out,Al.out,Bool.and_self,Bool.true_and,Bool.false_and,Bool.and_true,Bool.and_false,if_true,if_false,Bool.false_eq_true,reduceIte]
     rw [hj]
     clear hj
     refine bodyPost_ret (ret75 (g:=w.heap.size + 1 + 1) (y0:=.int .i64 0) (y1:=.string ⟨#[]⟩) (y2:=.string ⟨#[]⟩) (y3:=.string ⟨#[]⟩) (y4:=.int .i64 0) (y5:=.slice none 0 0) (y6:=.slice none 0 0) rfl rfl rfl ?_) rfl ?_
     ·exact set7 hst.r rfl _ _ _ _ _ _ _
     ·exact ⟨none,0,none,0,rfl,rd_none _ _ rfl rfl,below7 hst.below (by omega) _ _ _ _ _ _ _⟩
    | false =>
     obtain ⟨pc0,pc1,pc2,pc3,pc4,pc5,pc6⟩:=cells7 hst.p
     obtain ⟨qc0,qc1,qc2,qc3,qc4,qc5,qc6⟩:=cells7 hst.q
     cases h0 : (p.f0 == q.f0) with
     | false =>
      obtain ⟨rc0,rc1,rc2,rc3,rc4,rc5,rc6⟩:=cells7 hst.r
      obtain ⟨rf0,rf1,rf2,rf3,rf4,rf5,rf6⟩:=frozen7 hst.r
      go_wp2
      have hj : refJoin p q = (z24,0,false):=by rw [refJoinB_eq]; unfold refJoinB; simp only [Bp.out,Bq.out,Al.out,h0,Bool.and_self,Bool.true_and,Bool.false_and,Bool.and_true,Bool.and_false,if_true,if_false,Bool.false_eq_true,reduceIte]
      rw [hj]
      clear hj
      refine bodyPost_ret (ret75 (g:=w.heap.size + 1 + 1) (y0:=.int .i64 0) (y1:=.string ⟨#[]⟩) (y2:=.string ⟨#[]⟩) (y3:=.string ⟨#[]⟩) (y4:=.int .i64 0) (y5:=.slice none 0 0) (y6:=.slice none 0 0) rfl rfl rfl ?_) rfl ?_
      ·exact set7 hst.r rfl _ _ _ _ _ _ _
      ·exact ⟨none,0,none,0,rfl,rd_none _ _ rfl rfl,below7 hst.below (by omega) _ _ _ _ _ _ _⟩
     | true =>
      cases k9 : (p.f0 == 9) with
      | false =>
       cases k7 : (p.f0 == 7) with
       | false =>
        cases p10 : (p.f0 == 10) with
        | false =>
         obtain ⟨rc0,rc1,rc2,rc3,rc4,rc5,rc6⟩:=cells7 hst.r
         obtain ⟨rf0,rf1,rf2,rf3,rf4,rf5,rf6⟩:=frozen7 hst.r
         go_wp2
         have hj : refJoin p q = (z24,0,false):=by rw [refJoinB_eq]; unfold refJoinB; simp only [Bp.out,Bq.out,Al.out,h0,k9,k7,p10,Bool.and_self,Bool.true_and,Bool.false_and,Bool.and_true,Bool.and_false,if_true,if_false,Bool.false_eq_true,reduceIte]
         rw [hj]
         clear hj
         refine bodyPost_ret (ret75 (g:=w.heap.size + 1 + 1) (y0:=.int .i64 0) (y1:=.string ⟨#[]⟩) (y2:=.string ⟨#[]⟩) (y3:=.string ⟨#[]⟩) (y4:=.int .i64 0) (y5:=.slice none 0 0) (y6:=.slice none 0 0) rfl rfl rfl ?_) rfl ?_
         ·exact set7 hst.r rfl _ _ _ _ _ _ _
         ·exact ⟨none,0,none,0,rfl,rd_none _ _ rfl rfl,below7 hst.below (by omega) _ _ _ _ _ _ _⟩
        | true =>
         cases qp : (q.f1.toList == p.f2.toList) with
         | false =>
          obtain ⟨rc0,rc1,rc2,rc3,rc4,rc5,rc6⟩:=cells7 hst.r
          obtain ⟨rf0,rf1,rf2,rf3,rf4,rf5,rf6⟩:=frozen7 hst.r
          go_wp2
          have hj : refJoin p q = (z24,0,false):=by rw [refJoinB_eq]; unfold refJoinB; simp only [Bp.out,Bq.out,Al.out,h0,k9,k7,p10,qp,Bool.and_self,Bool.true_and,Bool.false_and,Bool.and_true,Bool.and_false,if_true,if_false,Bool.false_eq_true,reduceIte]
          rw [hj]
          clear hj
          refine bodyPost_ret (ret75 (g:=w.heap.size + 1 + 1) (y0:=.int .i64 0) (y1:=.string ⟨#[]⟩) (y2:=.string ⟨#[]⟩) (y3:=.string ⟨#[]⟩) (y4:=.int .i64 0) (y5:=.slice none 0 0) (y6:=.slice none 0 0) rfl rfl rfl ?_) rfl ?_
          ·exact set7 hst.r rfl _ _ _ _ _ _ _
          ·exact ⟨none,0,none,0,rfl,rd_none _ _ rfl rfl,below7 hst.below (by omega) _ _ _ _ _ _ _⟩
         | true =>
          go_wp2_with (fail)
          refine (rapart_s3 _ p.f1 q.f2 hst).mono ?_
          clear pc0 pc1 pc2 pc3 pc4 pc5 pc6 qc0 qc1 qc2 qc3 qc4 qc5 qc6
          rintro e w3 ⟨rfl,hst⟩
          obtain ⟨pc0,pc1,pc2,pc3,pc4,pc5,pc6⟩:=cells7 hst.p
          obtain ⟨qc0,qc1,qc2,qc3,qc4,qc5,qc6⟩:=cells7 hst.q
          cases ap : apartB p.f1 q.f2 with
          | false =>
           obtain ⟨rc0,rc1,rc2,rc3,rc4,rc5,rc6⟩:=cells7 hst.r
           obtain ⟨rf0,rf1,rf2,rf3,rf4,rf5,rf6⟩:=frozen7 hst.r
           go_wp2
           have hj : refJoin p q = (z24,0,false):=by rw [refJoinB_eq]; unfold refJoinB; simp only [Bp.out,Bq.out,Al.out,h0,k9,k7,p10,qp,ap,Bool.and_self,Bool.true_and,Bool.false_and,Bool.and_true,Bool.and_false,if_true,if_false,Bool.false_eq_true,reduceIte]
           rw [hj]
           clear hj
           refine bodyPost_ret (ret75 (g:=w.heap.size + 1 + 1) (y0:=.int .i64 0) (y1:=.string ⟨#[]⟩) (y2:=.string ⟨#[]⟩) (y3:=.string ⟨#[]⟩) (y4:=.int .i64 0) (y5:=.slice none 0 0) (y6:=.slice none 0 0) rfl rfl rfl ?_) rfl ?_
           ·exact set7 hst.r rfl _ _ _ _ _ _ _
           ·exact ⟨none,0,none,0,rfl,rd_none _ _ rfl rfl,below7 hst.below (by omega) _ _ _ _ _ _ _⟩
          | true =>
           obtain ⟨rc0,rc1,rc2,rc3,rc4,rc5,rc6⟩:=cells7 hst.r
           obtain ⟨rf0,rf1,rf2,rf3,rf4,rf5,rf6⟩:=frozen7 hst.r
           go_wp2
           have hj : refJoin p q = (⟨10,p.f1,q.f2,⟨#[]⟩,0,[],[]⟩,1,true):=by rw [refJoinB_eq]; unfold refJoinB; simp only [Bp.out,Bq.out,Al.out,h0,k9,k7,p10,qp,ap,Bool.and_self,Bool.true_and,Bool.false_and,Bool.and_true,Bool.and_false,if_true,if_false,Bool.false_eq_true,reduceIte]
           rw [hj]
           clear hj
           refine bodyPost_ret (ret75 (g:=w.heap.size + 1 + 1) (y0:=.int .i64 10) (y1:=.string p.f1) (y2:=.string q.f2) (y3:=.string ⟨#[]⟩) (y4:=.int .i64 0) (y5:=.slice none 0 0) (y6:=.slice none 0 0) rfl rfl rfl ?_) rfl ?_
           ·exact set7 hst.r rfl _ _ _ _ _ _ _
           ·exact ⟨none,0,none,0,rfl,rd_none _ _ rfl rfl,below7 hst.below (by omega) _ _ _ _ _ _ _⟩
       | true =>
        have e7 : p.f0 = 7:=by simpa using k7
        have p10 : (p.f0 == 10) = false:=by rw [e7]; decide
        clear e7
        cases s1 : (p.f1.toList == q.f1.toList) with
        | false =>
         obtain ⟨rc0,rc1,rc2,rc3,rc4,rc5,rc6⟩:=cells7 hst.r
         obtain ⟨rf0,rf1,rf2,rf3,rf4,rf5,rf6⟩:=frozen7 hst.r
         go_wp2
         have hj : refJoin p q = (z24,0,false):=by rw [refJoinB_eq]; unfold refJoinB; simp only [Bp.out,Bq.out,Al.out,h0,k9,k7,p10,s1,Bool.and_self,Bool.true_and,Bool.false_and,Bool.and_true,Bool.and_false,if_true,if_false,Bool.false_eq_true,reduceIte]
         rw [hj]
         clear hj
         refine bodyPost_ret (ret75 (g:=w.heap.size + 1 + 1) (y0:=.int .i64 0) (y1:=.string ⟨#[]⟩) (y2:=.string ⟨#[]⟩) (y3:=.string ⟨#[]⟩) (y4:=.int .i64 0) (y5:=.slice none 0 0) (y6:=.slice none 0 0) rfl rfl rfl ?_) rfl ?_
         ·exact set7 hst.r rfl _ _ _ _ _ _ _
         ·exact ⟨none,0,none,0,rfl,rd_none _ _ rfl rfl,below7 hst.below (by omega) _ _ _ _ _ _ _⟩
        | true =>
         cases f4 : (p.f4 == q.f4) with
         | false =>
          obtain ⟨rc0,rc1,rc2,rc3,rc4,rc5,rc6⟩:=cells7 hst.r
          obtain ⟨rf0,rf1,rf2,rf3,rf4,rf5,rf6⟩:=frozen7 hst.r
          go_wp2
          have hj : refJoin p q = (z24,0,false):=by rw [refJoinB_eq]; unfold refJoinB; simp only [Bp.out,Bq.out,Al.out,h0,k9,k7,p10,s1,f4,Bool.and_self,Bool.true_and,Bool.false_and,Bool.and_true,Bool.and_false,if_true,if_false,Bool.false_eq_true,reduceIte]
          rw [hj]
          clear hj
          refine bodyPost_ret (ret75 (g:=w.heap.size + 1 + 1) (y0:=.int .i64 0) (y1:=.string ⟨#[]⟩) (y2:=.string ⟨#[]⟩) (y3:=.string ⟨#[]⟩) (y4:=.int .i64 0) (y5:=.slice none 0 0) (y6:=.slice none 0 0) rfl rfl rfl ?_) rfl ?_
          ·exact set7 hst.r rfl _ _ _ _ _ _ _
          ·exact ⟨none,0,none,0,rfl,rd_none _ _ rfl rfl,below7 hst.below (by omega) _ _ _ _ _ _ _⟩
         | true =>
          go_wp2_with (fail)
          refine (requal_s3 _ p.f6 q.f5 A6 c6 B5 d5 hp.ok.ok.2 rp.g6 rp.l6 rq.g5 rq.l5 hst).mono ?_
          clear pc0 pc1 pc2 pc3 pc4 pc5 pc6 qc0 qc1 qc2 qc3 qc4 qc5 qc6
          rintro e w4 ⟨rfl,hst⟩
          obtain ⟨pc0,pc1,pc2,pc3,pc4,pc5,pc6⟩:=cells7 hst.p
          obtain ⟨qc0,qc1,qc2,qc3,qc4,qc5,qc6⟩:=cells7 hst.q
          cases el : eqL p.f6 q.f5 with
          | false =>
           obtain ⟨rc0,rc1,rc2,rc3,rc4,rc5,rc6⟩:=cells7 hst.r
           obtain ⟨rf0,rf1,rf2,rf3,rf4,rf5,rf6⟩:=frozen7 hst.r
           go_wp2
           have hj : refJoin p q = (z24,0,false):=by rw [refJoinB_eq]; unfold refJoinB; simp only [Bp.out,Bq.out,Al.out,h0,k9,k7,p10,s1,f4,el,Bool.and_self,Bool.true_and,Bool.false_and,Bool.and_true,Bool.and_false,if_true,if_false,Bool.false_eq_true,reduceIte]
           rw [hj]
           clear hj
           refine bodyPost_ret (ret75 (g:=w.heap.size + 1 + 1) (y0:=.int .i64 0) (y1:=.string ⟨#[]⟩) (y2:=.string ⟨#[]⟩) (y3:=.string ⟨#[]⟩) (y4:=.int .i64 0) (y5:=.slice none 0 0) (y6:=.slice none 0 0) rfl rfl rfl ?_) rfl ?_
           ·exact set7 hst.r rfl _ _ _ _ _ _ _
           ·exact ⟨none,0,none,0,rfl,rd_none _ _ rfl rfl,below7 hst.below (by omega) _ _ _ _ _ _ _⟩
          | true =>
           obtain ⟨rc0,rc1,rc2,rc3,rc4,rc5,rc6⟩:=cells7 hst.r
           obtain ⟨rf0,rf1,rf2,rf3,rf4,rf5,rf6⟩:=frozen7 hst.r
           go_wp2
           have hj : refJoin p q = (⟨7,p.f1,⟨#[]⟩,⟨#[]⟩,p.f4,p.f5,q.f6⟩,1,true):=by rw [refJoinB_eq]; unfold refJoinB; simp only [Bp.out,Bq.out,Al.out,h0,k9,k7,p10,s1,f4,el,Bool.and_self,Bool.true_and,Bool.false_and,Bool.and_true,Bool.and_false,if_true,if_false,Bool.false_eq_true,reduceIte]
           rw [hj]
           clear hj
           refine bodyPost_ret (ret75 (g:=w.heap.size + 1 + 1) (y0:=.int .i64 7) (y1:=.string p.f1) (y2:=.string ⟨#[]⟩) (y3:=.string ⟨#[]⟩) (y4:=.int .i64 p.f4) (y5:=.slice A5 p.f5.length c5) (y6:=.slice B6 q.f6.length d6) rfl rfl rfl ?_) rfl ?_
           ·exact set7 hst.r rfl _ _ _ _ _ _ _
           ·exact ⟨A5,c5,B6,d6,rfl,⟨rp0.g5,rp0.l5,rq0.g6,rq0.l6⟩,below7 hst.below (by omega) _ _ _ _ _ _ _⟩
      | true =>
       have e9 : p.f0 = 9:=by simpa using k9
       have k7 : (p.f0 == 7) = false:=by rw [e9]; decide
       have p10 : (p.f0 == 10) = false:=by rw [e9]; decide
       clear e9
       cases s1 : (p.f1.toList == q.f1.toList) with
       | false =>
        obtain ⟨rc0,rc1,rc2,rc3,rc4,rc5,rc6⟩:=cells7 hst.r
        obtain ⟨rf0,rf1,rf2,rf3,rf4,rf5,rf6⟩:=frozen7 hst.r
        go_wp2
        have hj : refJoin p q = (z24,0,false):=by rw [refJoinB_eq]; unfold refJoinB; simp only [Bp.out,Bq.out,Al.out,h0,k9,k7,p10,s1,Bool.and_self,Bool.true_and,Bool.false_and,Bool.and_true,Bool.and_false,if_true,if_false,Bool.false_eq_true,reduceIte]
        rw [hj]
        clear hj
        refine bodyPost_ret (ret75 (g:=w.heap.size + 1 + 1) (y0:=.int .i64 0) (y1:=.string ⟨#[]⟩) (y2:=.string ⟨#[]⟩) (y3:=.string ⟨#[]⟩) (y4:=.int .i64 0) (y5:=.slice none 0 0) (y6:=.slice none 0 0) rfl rfl rfl ?_) rfl ?_
        ·exact set7 hst.r rfl _ _ _ _ _ _ _
        ·exact ⟨none,0,none,0,rfl,rd_none _ _ rfl rfl,below7 hst.below (by omega) _ _ _ _ _ _ _⟩
       | true =>
        cases fq : (q.f3.toList == p.f2.toList) with
        | false =>
         obtain ⟨rc0,rc1,rc2,rc3,rc4,rc5,rc6⟩:=cells7 hst.r
         obtain ⟨rf0,rf1,rf2,rf3,rf4,rf5,rf6⟩:=frozen7 hst.r
         go_wp2
         have hj : refJoin p q = (z24,0,false):=by rw [refJoinB_eq]; unfold refJoinB; simp only [Bp.out,Bq.out,Al.out,h0,k9,k7,p10,s1,fq,Bool.and_self,Bool.true_and,Bool.false_and,Bool.and_true,Bool.and_false,if_true,if_false,Bool.false_eq_true,reduceIte]
         rw [hj]
         clear hj
         refine bodyPost_ret (ret75 (g:=w.heap.size + 1 + 1) (y0:=.int .i64 0) (y1:=.string ⟨#[]⟩) (y2:=.string ⟨#[]⟩) (y3:=.string ⟨#[]⟩) (y4:=.int .i64 0) (y5:=.slice none 0 0) (y6:=.slice none 0 0) rfl rfl rfl ?_) rfl ?_
         ·exact set7 hst.r rfl _ _ _ _ _ _ _
         ·exact ⟨none,0,none,0,rfl,rd_none _ _ rfl rfl,below7 hst.below (by omega) _ _ _ _ _ _ _⟩
        | true =>
         obtain ⟨rc0,rc1,rc2,rc3,rc4,rc5,rc6⟩:=cells7 hst.r
         obtain ⟨rf0,rf1,rf2,rf3,rf4,rf5,rf6⟩:=frozen7 hst.r
         go_wp2
         have hj : refJoin p q = (⟨9,p.f1,q.f2,p.f3,0,[],[]⟩,1,true):=by rw [refJoinB_eq]; unfold refJoinB; simp only [Bp.out,Bq.out,Al.out,h0,k9,k7,p10,s1,fq,Bool.and_self,Bool.true_and,Bool.false_and,Bool.and_true,Bool.and_false,if_true,if_false,Bool.false_eq_true,reduceIte]
         rw [hj]
         clear hj
         refine bodyPost_ret (ret75 (g:=w.heap.size + 1 + 1) (y0:=.int .i64 9) (y1:=.string p.f1) (y2:=.string q.f2) (y3:=.string p.f3) (y4:=.int .i64 0) (y5:=.slice none 0 0) (y6:=.slice none 0 0) rfl rfl rfl ?_) rfl ?_
         ·exact set7 hst.r rfl _ _ _ _ _ _ _
         ·exact ⟨none,0,none,0,rfl,rd_none _ _ rfl rfl,below7 hst.below (by omega) _ _ _ _ _ _ _⟩
end Go.Proofs.YthhohbidjhcjeaaDoor.H
namespace Go.Proofs.YthhohbidjhcjeaaDoor.H
open Go.RowKit Go.Proofs.YthhohbidjhcjeaaDoorW.PrintWords Go.Proofs.YthhohbidjhcjeaaDoorW.PrintLast Go.Proofs.YthhohbidjhcjeaaDoorW.PrintMore
open Go.Proofs.YthhohbidjhcjeaaDoor.Q Go.Proofs.YthhohbidjhcjeaaDoor.Pl
set_option linter.unusedVariables false
set_option linter.unusedSimpArgs false
theorem cutJ {S G : Nat → Option Addr → Nat → Option Addr → Nat → World → Prop} {goal : Prop} (h : (∀ g E5 u5 E6 u6 W,S g E5 u5 E6 u6 W → G g E5 u5 E6 u6 W) → goal) (h2 : ∀ g E5 u5 E6 u6 W,S g E5 u5 E6 u6 W → G g E5 u5 E6 u6 W) : goal:=h h2
/-- Behind a Join whose answer's patch is laid in a box. -/
structure JB (w wr : World) (x : S24) (b : Array Value) (g : Nat) (E5 : Option Addr) (u5 : Nat) (E6 : Option Addr) (u6 : Nat) (W : World) : Prop where
 below : Below wr.heap.size wr W
 ge : wr.heap.size ≤ g
 box : W.heap[g]? = some (.cells b 24 (0,0))
 rd : Rd w x E5 u5 E6 u6
theorem JB.set {w wr W : World} {x : S24} {b : Array Value} {g : Nat} {E5 : Option Addr} {u5 : Nat} {E6 : Option Addr} {u6 : Nat} (h : JB w wr x b g E5 u5 E6 u6 W) (hb : b.size = 7) (v0 v1 v2 v3 v4 v5 v6 : Value) :
  JB w wr x #[v0,v1,v2,v3,v4,v5,v6] g E5 u5 E6 u6 (((((((W.setCell ⟨g,0,none⟩ v0).setCell ⟨g,1,none⟩ v1).setCell ⟨g,2,none⟩ v2).setCell ⟨g,3,none⟩ v3).setCell ⟨g,4,none⟩ v4).setCell ⟨g,5,none⟩ v5).setCell ⟨g,6,none⟩ v6) :=
 ⟨below7 h.below h.ge v0 v1 v2 v3 v4 v5 v6,h.ge,set7 h.box hb v0 v1 v2 v3 v4 v5 v6,h.rd⟩
theorem joinS_okq {p q x : S24} (hp : Okq p) (hq : Okq q) (h : joinS p q = some (some x)) : Okq x:=by
 have h0:=joinS_okp hp.ok hq.ok h
 unfold joinS at h
 repeat' split at h
 all_goals cases h
 all_goals first | exact ⟨h0,hp.l5,hp.l6⟩ | exact ⟨h0,hp.l5,hq.l6⟩
theorem okq_z : Okq z24:=⟨⟨⟨by decide,by decide⟩,by decide,by decide,by decide⟩,(fun _ h => by cases h),(fun _ h => by cases h)⟩
set_option maxHeartbeats 16000000 in
set_option maxRecDepth 100000 in
theorem rcoal_at (l : List S24) (A : Option Addr) (c : Nat) (w : World) (hl : ∀ x ∈ l,Okq x) (hn : l.length ≤ 1000) (gl : Kd.C k24 w A l.length l) :
  Calls Tryd.prog 43 #[.slice A l.length c] w (fun e w' => ∃ v,e = .returned v ∧ Row w w' v (coalS l) ∧ Below w.heap.size w w'):=by
 replace gl:=Aside0.mk gl
 go_enter Tryd.func43,Tryd.ntmps43
 go_wp2
 go_loopg [3,4] l.length (fun kq v3 v4 w' => ∃ (i : Nat) (s : List S24),v4 = .int .i64 (i : Int) ∧ i + kq = l.length ∧ Aside0 (s = stackS [] (l.take i)) ∧ Aside0 (∀ x ∈ s,Okq x) ∧ Aside0 (s.length ≤ i) ∧ Aside0 (Row w w' v3 s.reverse) ∧ Aside0 (Below w.heap.size w w'))
 case atStart => exact ⟨0,[],rfl,by omega,⟨rfl⟩,⟨fun _ h => absurd h List.not_mem_nil⟩,⟨Nat.le_refl _⟩,⟨row_nil _ _⟩,⟨Below.refl _ _⟩⟩
 case round =>
  obtain ⟨i,s,rfl,hk,hs,hok,hlen,hR,hB⟩:=hrel
  by_cases hi : i < l.length
  ·have c1b : decide ((i : Int) < (l.length : Int)) = true:=decide_eq_true (by omega)
   obtain ⟨ad,X5,x5,X6,x6,eA,y0,y1,y2,y3,y4,y5,y6,l5,g5,l6,g6⟩:=at_T24 gl.out (i : Int) (by omega) (by omega)
   obtain ⟨x,hx⟩ : ∃ x,rd_T24 l (i : Int) = x:=⟨_,rfl⟩
   rw [hx] at y0 y1 y2 y3 y4 y5 y6 l5 g5 l6 g6
   have hxm : x = l[i]:=by rw [← hx,rd_T24_get l hi]
   have rx : Rd w x X5 x5 X6 x6:=⟨g5,l5,g6,l6⟩
   have hox : Aside0 (Okq x):=⟨by rw [hxm]; exact hl _ (List.getElem_mem hi)⟩
   replace y0:=pw_cell_below hB.out y0
   replace y1:=pw_cell_below hB.out y1
   replace y2:=pw_cell_below hB.out y2
   replace y3:=pw_cell_below hB.out y3
   replace y4:=pw_cell_below hB.out y4
   replace y5:=pw_cell_below hB.out y5
   replace y6:=pw_cell_below hB.out y6
   simp only [Int.toNat_natCast] at y0 y1 y2 y3 y4 y5 y6
   clear l5 g5 l6 g6 hx
   subst eA
   have hxl:=Aside0.mk hxm
   replace rx:=Aside0.mk rx
   clear hxm
   have i0 : (0 : Int) ≤ (i : Int):=by omega
   have i1 : (i : Int) < (l.length : Int):=by omega
   have hwi : IntKind.i64.wrap ((i : Int) + 1) = (i : Int) + 1:=wrap_i (by omega) (by omega)
   go_upto_region 6 with (fail)
   clear y0 y1 y2 y3 y4 y5 y6
   have hal:=below_alloc (Below.refl _ wr) (.cells #[.int .i64 x.f0,.string x.f1,.string x.f2,.string x.f3,.int .i64 x.f4,.slice X5 x.f5.length x5,.slice X6 x.f6.length x6] 24)
   have hRV : Aside0 (Row w _ u3 s.reverse):=⟨hR.out.below hal⟩
   have hBV : Aside0 (Below w.heap.size w _):=⟨hB.out.trans (hal.mono hB.out.size)⟩
   have hxV:=Aside0.mk (blk_new wr (.cells #[.int .i64 x.f0,.string x.f1,.string x.f2,.string x.f3,.int .i64 x.f4,.slice X5 x.f5.length x5,.slice X6 x.f6.length x6] 24))
   have hne : some wr.heap.size ≠ u3.ownBlock:=ne_new hR.out (Nat.le_refl _)
   have hgw : w.heap.size ≤ wr.heap.size:=hB.out.size
   generalize wr.alloc (.cells #[.int .i64 x.f0,.string x.f1,.string x.f2,.string x.f3,.int .i64 x.f4,.slice X5 x.f5.length x5,.slice X6 x.f6.length x6] 24) = V at hRV hBV hxV ⊢
   generalize wr.heap.size = gp at hxV hne hgw ⊢
   clear hal hR hB
   replace hne:=Aside0.mk hne
   go_wp2
   go_loopg [3,6] s.length (fun kq v3 v6 w' => ∃ (b : Bool) (s' : List S24) (p' : S24) (C5 : Option Addr) (e5 : Nat) (C6 : Option Addr) (e6 : Nat),v6 = .bool b ∧ s'.length = kq ∧ Aside0 (putS s x = if b then putS s' p' else s') ∧ Aside0 (∀ x ∈ s',Okq x) ∧ Aside0 (Okq p') ∧ Aside0 (s'.length ≤ s.length) ∧ Aside0 (Row w w' v3 s'.reverse) ∧ Aside0 (some gp ≠ v3.ownBlock) ∧ Aside0 (w'.heap[gp]? = some (.cells #[.int .i64 p'.f0,.string p'.f1,.string p'.f2,.string p'.f3,.int .i64 p'.f4,.slice C5 p'.f5.length e5,.slice C6 p'.f6.length e6] 24 (0,0))) ∧ Aside0 (Rd w p' C5 e5 C6 e6) ∧ Aside0 (Below w.heap.size w w'))
   case atStart => exact ⟨true,s,x,X5,x5,X6,x6,rfl,rfl,⟨rfl⟩,hok,hox,⟨Nat.le_refl _⟩,hRV,hne,hxV,rx,hBV⟩
   case round =>
    clear hRV hBV hxV hne
    obtain ⟨b,s',p',C5,e5,C6,e6,rfl,rfl,hput,hok',hp',hsl,hR',hne',hx',rp',hB'⟩:=hrel
    cases s' with
    | nil =>
     obtain ⟨A3,c3,rfl,hc3⟩:=hR'.out.slice
     simp only [List.reverse_nil,List.length_nil] at hR' ⊢
     cases b with
     | false =>
      go_wp2
      go_roundg (l.length - (i + 1))
      case measure => omega
      case rel => exact ⟨i + 1,[],by simp,by omega,⟨by rw [stack_take l i hi,← hs.out,← hxl.out]; exact hput.out.symm⟩,hok',⟨by have:=hlen.out; have h9:=hsl.out; (try simp only [List.length_cons,List.length_nil] at h9 ⊢); omega⟩,⟨by simpa using hR'.out⟩,hB'⟩
     | true =>
      obtain ⟨k0,k1,k2,k3,k4,k5,k6⟩:=cells7 hx'.out
      have hRA : Aside0 (OwnRow (Rw w) 24 7 wr w.heap.size (.slice A3 0 c3) ([] : List S24)):=⟨hR'.out⟩
      have hBA:=hB'
      have hSA : Aside0 (w.heap.size ≤ wr.heap.size):=⟨hB'.out.size⟩
      have hLA : Aside0 ((([] : List S24).length + 1) * 112 ≤ 140737488355328):=⟨by decide⟩
      have hpn : Aside0 (putS s x = [p']):=⟨hput.out⟩
      go_wp2_with (((with_reducible refine gate_builtin (b:=.append) (xs:=#[.tmp 49,.tmp 51]) rfl ?_); at_builtin; refine OwnRow.append (R:=Rw w) (w0:=w) w.heap.size rfl (.tmp 49) (.tmp 51) 25 24 (.agg #[(.int .i64 0),(.string ⟨#[]⟩),(.string ⟨#[]⟩),(.string ⟨#[]⟩),(.int .i64 0),(.slice none 0 0),(.slice none 0 0)]) 7 112 rfl Tryd.underlying25 infoR rfl (by decide) (by omega) (.slice A3 0 c3) ([] : List S24) p' [.int .i64 p'.f0,.string p'.f1,.string p'.f2,.string p'.f3,.int .i64 p'.f4,.slice C5 p'.f5.length e5,.slice C6 p'.f6.length e6] rfl rfl ?aP rfl (rw_one (w:=w)) ?aO ?aB ?aS ?aL ?_; (case aP => exact ⟨_,_,_,_,rfl,rp'.out⟩); (case aO => exact hRA.out); (case aB => exact hBA.out); (case aS => exact hSA.out); (case aL => exact hLA.out); intro v1 w3 hR3 hb3 hg3 hat3; replace hR3:=Aside0.mk hR3; replace hb3:=Aside0.mk hb3; clear hg3 hat3))
      clear k0 k1 k2 k3 k4 k5 k6
      have hRr : Aside0 (Row w w3 v1 [p']):=⟨hR3.out⟩
      go_wp2
      go_roundg (l.length - (i + 1))
      case measure => omega
      case rel => exact ⟨i + 1,[p'],by simp,by omega,⟨by rw [stack_take l i hi,← hs.out,← hxl.out]; exact hpn.out.symm⟩,⟨fun y hy => by rw [List.mem_singleton.1 hy]; exact hp'.out⟩,⟨by have:=hlen.out; have h9:=hsl.out; (try simp only [List.length_cons,List.length_nil] at h9 ⊢); omega⟩,⟨by simpa using hRr.out⟩,hb3⟩
    | cons t r =>
     obtain ⟨L,hL⟩ : ∃ L,L = (t :: r).reverse:=⟨_,rfl⟩
     have hLl : L.length = r.length + 1:=by rw [hL]; simp
     have hLt : ∀ h,L[r.length]'h = t:=by subst hL; intro h; simp
     have hLk : Aside0 (L.take r.length = r.reverse):=⟨by rw [hL,List.reverse_cons,List.take_left' (by simp)]⟩
     rw [← hL] at hR'
     obtain ⟨ad2,c2,T5,t5,T6,t6,rfl,hc2,rt,z0,z1,z2,z3,z4,z5,z6⟩:=row_at hR'.out r.length (by omega)
     simp only [hLt] at rt z0 z1 z2 z3 z4 z5 z6
     rw [hLl] at hc2 hR' ⊢
     have hrl : Aside0 (r.length + 1 ≤ 1000):=⟨by have h1:=hsl.out; have h2:=hlen.out; simp only [List.length_cons] at h1; omega⟩
     obtain ⟨n,hn'⟩ : ∃ n,n = r.length:=⟨_,rfl⟩
     rw [← hn'] at hc2 hR' z0 z1 z2 z3 z4 z5 z6 hLk hrl ⊢
     have hsrl : Aside0 (n + 1 ≤ s.length):=⟨by have h1:=hsl.out; simp only [List.length_cons] at h1; omega⟩
     have hnr : Aside0 (n = r.length):=⟨hn'⟩
     replace hL:=Aside0.mk hL
     have hLn : Aside0 (L.length = n + 1):=⟨by omega⟩
     have hn2 : n ≤ 1256584717458:=by (have:=hrl.out; omega)
     have hwn : IntKind.i64.wrap (n : Int) = (n : Int):=wrap_small _ (by omega) (by omega)
     have hlt1 : ((n : Int) < (n : Int) + 1) = True:=eq_true (by omega)
     have hgt1 : decide ((n : Int) + 1 > 0) = true:=decide_eq_true (by omega)
     clear hLl hLt hn'
     replace rt:=Aside0.mk rt
     have hot : Aside0 (Okq t):=⟨hok'.out t (List.mem_cons_self ..)⟩
     have hor : Aside0 (∀ x ∈ r,Okq x):=⟨fun x hx => hok'.out x (List.mem_cons_of_mem _ hx)⟩
     have hcut1 : ∀ W,(Instr.slice 25 (.slice (some ad2) (n + 1) c2) none (some (.int .i64 (n : Int))) none).run Tryd.prog W = .ok (.slice (some ad2) n c2) W:=row_cut ad2 n c2 hc2
     cases b with
     | false =>
      clear z0 z1 z2 z3 z4 z5 z6
      have hpn : Aside0 (putS s x = t :: r):=⟨hput.out⟩
      have hRr : Aside0 (Row w wr (.slice (some ad2) (n + 1) c2) (t :: r).reverse):=⟨by rw [← hL.out]; exact hR'.out⟩
      go_wp2
      go_roundg (l.length - (i + 1))
      case measure => omega
      case rel => exact ⟨i + 1,(t :: r),by simp,by omega,⟨by rw [stack_take l i hi,← hs.out,← hxl.out]; exact hpn.out.symm⟩,hok',⟨by have:=hlen.out; have h9:=hsl.out; (try simp only [List.length_cons,List.length_nil] at h9 ⊢); omega⟩,⟨by simpa using hRr.out⟩,hB'⟩
     | true =>
      have hpn : Aside0 (putS s x = putS (t :: r) p'):=⟨hput.out⟩
      obtain ⟨tt,htt⟩ : ∃ tt,tt = refJoin t p':=⟨_,rfl⟩
      have hcall : Aside0 (∀ W,Below wr.heap.size wr W → Calls Tryd.prog 75 #[.agg #[.int .i64 t.f0,.string t.f1,.string t.f2,.string t.f3,.int .i64 t.f4,.slice T5 t.f5.length t5,.slice T6 t.f6.length t6],.agg #[.int .i64 p'.f0,.string p'.f1,.string p'.f2,.string p'.f3,.int .i64 p'.f4,.slice C5 p'.f5.length e5,.slice C6 p'.f6.length e6]] W (fun e w' => ∃ C5 e5 C6 e6,e = .returned (.tuple #[.agg (cs tt.1 C5 e5 C6 e6),.int .i64 tt.2.1,.bool tt.2.2]) ∧ Rd w tt.1 C5 e5 C6 e6 ∧ Below W.heap.size W w')):=⟨fun W hW => by rw [htt]; exact rjoin_at t p' T5 t5 T6 t6 C5 e5 C6 e6 W w (hB'.out.trans (hW.mono hB'.out.size)) hot.out hp'.out rt.out rp'.out⟩
      replace htt:=Aside0.mk htt
      replace z0:=Aside0.mk z0
      replace z1:=Aside0.mk z1
      replace z2:=Aside0.mk z2
      replace z3:=Aside0.mk z3
      replace z4:=Aside0.mk z4
      replace z5:=Aside0.mk z5
      replace z6:=Aside0.mk z6
      go_upto_region 8 with (fail)
      go_cut [7,8,9] from 26 to 37 (fun v7 v8 v9 w' => ∃ g E5 u5 E6 u6,v7 = .pointer (some ⟨g,0,none⟩) ∧ v8 = .int .i64 tt.2.1 ∧ v9 = .bool tt.2.2 ∧ Aside0 (JB w wr tt.1 (cs tt.1 E5 u5 E6 u6) g E5 u5 E6 u6 w'))
      case first =>
       refine wp_region_held_drew (S:=fun W => Below wr.heap.size wr W) (by kernel_rfl) (below_drew (Below.refl _ _)) (fun _ => ?_)
       apply cutJ (S:=JB w wr tt.1 zeroC)
       intro t0
       ·have hS : Below wr.heap.size wr (World.drew wr):=below_drew (Below.refl _ _)
        generalize World.drew wr = W at hS ⊢
        refine tkH (v:=?_) 0 (some 27) rfl rfl (by kernel_rfl) (by kernel_rfl) (fun _ _ _ h => h) (fun W' hSW => ?_) hS ?_
        rotate_left
        ·go_simp; (try with_reducible rfl)
        simp only [Act.put,List.setIfInBounds_toArray,List.set_cons_zero,List.set_cons_succ]
        refine tkH (v:=?_) 1 (some 28) rfl rfl (by kernel_rfl) (by kernel_rfl) (fun _ _ _ h => h) (fun W' hSW => ?_) hS ?_
        rotate_left
        ·go_simp; (try with_reducible rfl)
        simp only [Act.put,List.setIfInBounds_toArray,List.set_cons_zero,List.set_cons_succ]
        refine tkH (v:=?_) 2 (some 29) rfl rfl (by kernel_rfl) (by kernel_rfl) (fun _ _ _ h => h) (fun W' hSW => ?_) hS ?_
        rotate_left
        ·go_simp; (try with_reducible rfl)
        simp only [Act.put,List.setIfInBounds_toArray,List.set_cons_zero,List.set_cons_succ]
        refine tkH (v:=?_) 3 (some 30) rfl rfl (by kernel_rfl) (by kernel_rfl) (fun _ _ _ h => h) (fun W' hSW => ?_) hS ?_
        rotate_left
        ·go_simp; (try with_reducible rfl)
        simp only [Act.put,List.setIfInBounds_toArray,List.set_cons_zero,List.set_cons_succ]
        refine tkH (v:=?_) 4 (some 31) rfl rfl (by kernel_rfl) (by kernel_rfl) (fun _ _ _ h => h) (fun W' hSW => ?_) hS ?_
        rotate_left
        ·go_simp; (try with_reducible rfl)
        simp only [Act.put,List.setIfInBounds_toArray,List.set_cons_zero,List.set_cons_succ]
        refine tkH (v:=?_) 5 (some 32) rfl rfl (by kernel_rfl) (by kernel_rfl) (fun _ _ _ h => h) (fun W' hSW => ?_) hS ?_
        rotate_left
        ·have q0:=pw_cell_below hSW z0.out; have q1:=pw_cell_below hSW z1.out; have q2:=pw_cell_below hSW z2.out; have q3:=pw_cell_below hSW z3.out; have q4:=pw_cell_below hSW z4.out; have q5:=pw_cell_below hSW z5.out; have q6:=pw_cell_below hSW z6.out; go_simp; (try with_reducible rfl)
        simp only [Act.put,List.setIfInBounds_toArray,List.set_cons_zero,List.set_cons_succ]
        refine tkH (v:=?_) 6 (some 33) rfl rfl (by kernel_rfl) (by kernel_rfl) (fun _ _ _ h => h) (fun W' hSW => ?_) hS ?_
        rotate_left
        ·obtain ⟨k0,k1,k2,k3,k4,k5,k6⟩:=cells7 (blk_below hx'.out hSW); go_simp; (try with_reducible rfl)
        simp only [Act.put,List.setIfInBounds_toArray,List.set_cons_zero,List.set_cons_succ]
        refine wpAnyH_ready (rs:=[7,12]) (by kernel_rfl) (by simp) (AllReadyH.cons rfl (fun K hK => ?_) (AllReadyH.cons rfl (fun K hK => ?_) AllReadyH.nil))
        ·go_simp
         refine (hcall.out _ hS).mono ?_
         rintro e W ⟨E5,u5,E6,u6,rfl,hrd,hb⟩
         replace hS:=hS.trans (hb.mono hS.size)
         refine hK.out _ _ hS (fun _ => ?_)
         clear hK K
         refine tkH (v:=?_) 8 (some 26) rfl rfl (by kernel_rfl) (by kernel_rfl) (fun _ _ _ h => h) (fun W' hSW => ?_) hS ?_
         rotate_left
         ·go_simp; (try with_reducible rfl)
         simp only [Act.put,List.setIfInBounds_toArray,List.set_cons_zero,List.set_cons_succ]
         refine tkH (v:=?_) 9 (some 35) rfl rfl (by kernel_rfl) (by kernel_rfl) (fun _ _ _ h => h) (fun W' hSW => ?_) hS ?_
         rotate_left
         ·go_simp; (try with_reducible rfl)
         simp only [Act.put,List.setIfInBounds_toArray,List.set_cons_zero,List.set_cons_succ]
         refine tkH (v:=?_) 10 (some 36) rfl rfl (by kernel_rfl) (by kernel_rfl) (fun _ _ _ h => h) (fun W' hSW => ?_) hS ?_
         rotate_left
         ·go_simp; (try with_reducible rfl)
         simp only [Act.put,List.setIfInBounds_toArray,List.set_cons_zero,List.set_cons_succ]
         refine tkH (v:=?_) 11 (some 37) rfl rfl (by kernel_rfl) (by kernel_rfl) (fun _ _ _ h => h) (fun W' hSW => ?_) hS ?_
         rotate_left
         ·go_simp; (try with_reducible rfl)
         simp only [Act.put,List.setIfInBounds_toArray,List.set_cons_zero,List.set_cons_succ]
         refine wpAnyH_ready (rs:=[12]) (by kernel_rfl) (by simp) (AllReadyH.cons rfl (fun K hK => ?_) AllReadyH.nil)
         go_simp
         have hP : JB w wr tt.1 zeroC W.heap.size E5 u5 E6 u6 (W.alloc (.cells zeroC 24)):=⟨hS.alloc hS.size _,hS.size,blk_new _ _,hrd⟩
         replace hS:=hS.alloc hS.size (.cells zeroC 24)
         refine hK.out _ _ hS (fun _ => ?_)
         clear hK K
         generalize W.heap.size = g at hP ⊢
         generalize W.alloc (.cells zeroC 24) = W at hP hS ⊢
         exact wpAnyH_at (l':=#[true,true,true,true,true,true,true,true,true,true,true,true,true,false,false,false]) (by kernel_rfl) (t0 g E5 u5 E6 u6 _ hP)
        ·go_simp
         have hbx : wr.heap.size ≤ W.heap.size ∧ (W.alloc (.cells zeroC 24)).heap[W.heap.size]? = some (.cells zeroC 24 (0,0)):=⟨hS.size,blk_new _ _⟩
         replace hS:=hS.alloc hS.size (.cells zeroC 24)
         refine hK.out _ _ hS (fun _ => ?_)
         clear hK K
         generalize W.heap.size = g at hbx ⊢
         generalize W.alloc (.cells zeroC 24) = W at hbx hS ⊢
         refine wpAnyH_ready (rs:=[7]) (by kernel_rfl) (by simp) (AllReadyH.cons rfl (fun K hK => ?_) AllReadyH.nil)
         go_simp
         refine (hcall.out _ hS).mono ?_
         rintro e W ⟨E5,u5,E6,u6,rfl,hrd,hb⟩
         have hP : JB w wr tt.1 zeroC g E5 u5 E6 u6 _:=⟨hS.trans (hb.mono hS.size),hbx.1,blk_below hbx.2 hb,hrd⟩
         replace hS:=hS.trans (hb.mono hS.size)
         refine hK.out _ _ hS (fun _ => ?_)
         clear hK K
         refine tkH (v:=?_) 8 (some 26) rfl rfl (by kernel_rfl) (by kernel_rfl) (fun _ _ _ h => h) (fun W' hSW => ?_) hS ?_
         rotate_left
         ·go_simp; (try with_reducible rfl)
         simp only [Act.put,List.setIfInBounds_toArray,List.set_cons_zero,List.set_cons_succ]
         refine tkH (v:=?_) 9 (some 35) rfl rfl (by kernel_rfl) (by kernel_rfl) (fun _ _ _ h => h) (fun W' hSW => ?_) hS ?_
         rotate_left
         ·go_simp; (try with_reducible rfl)
         simp only [Act.put,List.setIfInBounds_toArray,List.set_cons_zero,List.set_cons_succ]
         refine tkH (v:=?_) 10 (some 36) rfl rfl (by kernel_rfl) (by kernel_rfl) (fun _ _ _ h => h) (fun W' hSW => ?_) hS ?_
         rotate_left
         ·go_simp; (try with_reducible rfl)
         simp only [Act.put,List.setIfInBounds_toArray,List.set_cons_zero,List.set_cons_succ]
         refine tkH (v:=?_) 11 (some 37) rfl rfl (by kernel_rfl) (by kernel_rfl) (fun _ _ _ h => h) (fun W' hSW => ?_) hS ?_
         rotate_left
         ·go_simp; (try with_reducible rfl)
         simp only [Act.put,List.setIfInBounds_toArray,List.set_cons_zero,List.set_cons_succ]
         exact wpAnyH_at (l':=#[true,true,true,true,true,true,true,true,true,true,true,true,true,false,false,false]) (by kernel_rfl) (t0 g E5 u5 E6 u6 _ hP)
       ·intro g E5 u5 E6 u6 W hP
        have hS:=hP.below
        obtain ⟨k0,k1,k2,k3,k4,k5,k6⟩:=cells7 hP.box
        obtain ⟨f0,f1,f2,f3,f4,f5,f6⟩:=frozen7 hP.box
        refine wpAnyH_ready (rs:=[13]) (by kernel_rfl) (by simp) (AllReadyH.cons rfl (fun K hK => ?_) AllReadyH.nil)
        go_simp
        replace hP:=hP.set rfl (.int .i64 tt.1.f0) (.string tt.1.f1) (.string tt.1.f2) (.string tt.1.f3) (.int .i64 tt.1.f4) (.slice E5 tt.1.f5.length u5) (.slice E6 tt.1.f6.length u6)
        replace hS:=hP.below
        clear k0 f0 k1 f1 k2 f2 k3 f3 k4 f4 k5 f5 k6 f6
        refine hK.out _ _ hS (fun _ => ?_)
        clear hK K
        refine tkH (v:=?_) 14 (some 8) rfl rfl (by kernel_rfl) (by kernel_rfl) (fun _ _ _ h => h) (fun W' hSW => ?_) hS ?_
        rotate_left
        ·go_simp; (try with_reducible rfl)
        simp only [Act.put,List.setIfInBounds_toArray,List.set_cons_zero,List.set_cons_succ]
        refine tkH (v:=?_) 15 (some 9) rfl rfl (by kernel_rfl) (by kernel_rfl) (fun _ _ _ h => h) (fun W' hSW => ?_) hS ?_
        rotate_left
        ·go_simp; (try with_reducible rfl)
        simp only [Act.put,List.setIfInBounds_toArray,List.set_cons_zero,List.set_cons_succ]
        refine wpAnyH_done (by kernel_rfl) ?_ _
        go_wp2
        go_meet
        case rel => exact ⟨_,_,_,_,_,rfl,rfl,rfl,⟨hP⟩⟩
      case rest =>
       obtain ⟨g,E5,u5,E6,u6,rfl,rfl,rfl,hP⟩:=hcut
       clear hcall z0 z1 z2 z3 z4 z5 z6
       have hbc : Aside0 (Below w.heap.size w wc):=⟨hB'.out.trans (hP.out.below.mono hB'.out.size)⟩
       have hRc:=Aside0.mk (hR'.out.below hP.out.below)
       have hxc:=Aside0.mk (blk_below hx'.out hP.out.below)
       have hgp : gp < wr.heap.size:=blk_lt hx'.out
       have hgg : gp ≠ g:=by have:=hP.out.ge; omega
       clear hR' hx' hgp
       cases hj : joinS t p' with
       | none =>
        have e1 : tt = (z24,0,false):=by rw [htt.out,refJoin_eq,hj]; rfl
        have hpn2 : Aside0 (putS s x = p' :: t :: r):=⟨by rw [hpn.out,putS,hj]⟩
        rw [e1]
        clear e1 hj hP hcut1
        obtain ⟨k0,k1,k2,k3,k4,k5,k6⟩:=cells7 hxc.out
        have hRA : Aside0 (OwnRow (Rw w) 24 7 wc w.heap.size (.slice (some ad2) (n + 1) c2) L):=⟨hRc.out⟩
        have hBA:=hbc
        have hSA : Aside0 (w.heap.size ≤ wc.heap.size):=⟨hbc.out.size⟩
        have hLA : Aside0 ((L.length + 1) * 112 ≤ 140737488355328):=⟨by have:=hLn.out; have:=hrl.out; omega⟩
        go_wp2_with (((with_reducible refine gate_builtin (b:=.append) (xs:=#[.tmp 49,.tmp 51]) rfl ?_); at_builtin; refine OwnRow.append (R:=Rw w) (w0:=w) w.heap.size rfl (.tmp 49) (.tmp 51) 25 24 (.agg #[(.int .i64 0),(.string ⟨#[]⟩),(.string ⟨#[]⟩),(.string ⟨#[]⟩),(.int .i64 0),(.slice none 0 0),(.slice none 0 0)]) 7 112 rfl Tryd.underlying25 infoR rfl (by decide) (by omega) (.slice (some ad2) (n + 1) c2) L p' [.int .i64 p'.f0,.string p'.f1,.string p'.f2,.string p'.f3,.int .i64 p'.f4,.slice C5 p'.f5.length e5,.slice C6 p'.f6.length e6] rfl rfl ?aP rfl (rw_one (w:=w)) ?aO ?aB ?aS ?aL ?_; (case aP => exact ⟨_,_,_,_,rfl,rp'.out⟩); (case aO => exact hRA.out); (case aB => exact hBA.out); (case aS => exact hSA.out); (case aL => exact hLA.out); intro v1 w3 hR3 hb3 hg3 hat3; replace hR3:=Aside0.mk hR3; replace hb3:=Aside0.mk hb3; clear hg3 hat3))
        clear k0 k1 k2 k3 k4 k5 k6
        have hRr : Aside0 (Row w w3 v1 (p' :: t :: r).reverse):=⟨by rw [List.reverse_cons,← hL.out]; exact hR3.out⟩
        go_wp2
        go_roundg (l.length - (i + 1))
        case measure => omega
        case rel => exact ⟨i + 1,(p' :: t :: r),by simp,by omega,⟨by rw [stack_take l i hi,← hs.out,← hxl.out]; exact hpn2.out.symm⟩,⟨fun y hy => by rcases List.mem_cons.1 hy with rfl | hy; exact hp'.out; exact hok'.out y hy⟩,⟨by have:=hlen.out; have h9:=hsl.out; (try simp only [List.length_cons,List.length_nil] at h9 ⊢); omega⟩,⟨by simpa using hRr.out⟩,hb3⟩
       | some y =>
        have hbg:=hP.out.box
        obtain ⟨k0,k1,k2,k3,k4,k5,k6⟩:=cells7 hbg
        obtain ⟨f0,f1,f2,f3,f4,f5,f6⟩:=frozen7 hxc.out
        obtain ⟨m0,m1,m2,m3,m4,m5,m6⟩:=cells7 hxc.out
        have hfin : ∀ (v0 v1 v2 v3 v4 v5 v6 : Value),(((((((wc.setCell ⟨gp,0,none⟩ v0).setCell ⟨gp,1,none⟩ v1).setCell ⟨gp,2,none⟩ v2).setCell ⟨gp,3,none⟩ v3).setCell ⟨gp,4,none⟩ v4).setCell ⟨gp,5,none⟩ v5).setCell ⟨gp,6,none⟩ v6).heap[gp]? = some (.cells #[v0,v1,v2,v3,v4,v5,v6] 24 (0,0)):=fun v0 v1 v2 v3 v4 v5 v6 => set7 hxc.out rfl v0 v1 v2 v3 v4 v5 v6
        have hRt : Aside0 (Row w wc (.slice (some ad2) n c2) r.reverse):=⟨by rw [← hLk.out]; exact row_take hRc.out n (by have:=hLn.out; omega)⟩
        have hnt : Aside0 (some gp ≠ (Value.slice (some ad2) n c2).ownBlock):=⟨hne'.out⟩
        replace hfin:=Aside0.mk hfin
        have rdg:=Aside0.mk hP.out.rd
        clear hP hbg
        cases y with
        | none =>
         have e1 : tt = (z24,0,true):=by rw [htt.out,refJoin_eq,hj]; rfl
         have hpn2 : Aside0 (putS s x = if false then putS r z24 else r):=⟨by rw [hpn.out,putS,hj]; rfl⟩
         have hoz : Aside0 (Okq z24):=⟨okq_z⟩
         subst e1
         dsimp only at rdg k0 k1 k2 k3 k4 k5 k6 ⊢
         clear hj
         go_wp2
         go_roundg r.length
         case measure => simp
         case rel => exact ⟨false,r,z24,E5,u5,E6,u6,rfl,rfl,hpn2,hor,hoz,⟨by have:=hsrl.out; have:=hnr.out; omega⟩,⟨own_set7n hRt.out hnt.out _ _ _ _ _ _ _⟩,hnt,⟨hfin.out _ _ _ _ _ _ _⟩,rdg,⟨below7 hbc.out hgw _ _ _ _ _ _ _⟩⟩
        | some z =>
         have e1 : tt = (z,1,true):=by rw [htt.out,refJoin_eq,hj]; rfl
         have hpn2 : Aside0 (putS s x = if true then putS r z else r):=⟨by rw [hpn.out,putS,hj]; rfl⟩
         have hoz : Aside0 (Okq z):=⟨joinS_okq hot.out hp'.out hj⟩
         subst e1
         dsimp only at rdg k0 k1 k2 k3 k4 k5 k6 ⊢
         clear hj
         go_wp2
         go_roundg r.length
         case measure => simp
         case rel => exact ⟨true,r,z,E5,u5,E6,u6,rfl,rfl,hpn2,hor,hoz,⟨by have:=hsrl.out; have:=hnr.out; omega⟩,⟨own_set7n hRt.out hnt.out _ _ _ _ _ _ _⟩,hnt,⟨hfin.out _ _ _ _ _ _ _⟩,rdg,⟨below7 hbc.out hgw _ _ _ _ _ _ _⟩⟩
  ·have c1b : decide ((i : Int) < (l.length : Int)) = false:=decide_eq_false (by omega)
   have hil : i = l.length:=by omega
   have hfin : Aside0 (s.reverse = coalS l):=⟨by rw [hs.out,hil,List.take_length]; rfl⟩
   obtain ⟨A3,c3,rfl,hc3⟩:=hR.out.slice
   go_wp2
   go_ret
   exact ⟨_,rfl,by rw [← hfin.out]; exact hR.out,hB.out⟩
end Go.Proofs.YthhohbidjhcjeaaDoor.H
namespace Go.Proofs.YthhohbidjhcjeaaDoor.H
open Go.RowKit Go.Proofs.YthhohbidjhcjeaaDoorW.PrintWords Go.Proofs.YthhohbidjhcjeaaDoorW.PrintLast Go.Proofs.YthhohbidjhcjeaaDoorW.PrintMore
open Go.Proofs.YthhohbidjhcjeaaDoor.Q Go.Proofs.YthhohbidjhcjeaaDoor.Pl
set_option linter.unusedVariables false
set_option linter.unusedSimpArgs false
theorem swapP_okp {a b : List S24} (ha : ∀ p ∈ a,Okp p) (hb : ∀ p ∈ b,Okp p) : (∀ p ∈ (swapP a b).1,Okp p) ∧ (∀ p ∈ (swapP a b).2.1,Okp p) ∧ (swapP a b).1.length ≤ b.length ∧ (swapP a b).2.1.length ≤ a.length:=by
 cases h : swapS a b with
 | none => rw [swapP_no h]; exact ⟨(fun _ h => by cases h),(fun _ h => by cases h),Nat.zero_le _,Nat.zero_le _⟩
 | some z =>
  obtain ⟨x,y⟩:=z
  rw [swapP_yes h]
  obtain ⟨o1,o2,o3,o4⟩:=okp_swap a b x y ha hb h
  exact ⟨o1,o2,Nat.le_of_eq o3,Nat.le_of_eq o4⟩
theorem lastP_okp {l : List S24} {k : Int} (hl : ∀ p ∈ l,Okp p) : (∀ p ∈ (lastP l k).1,Okp p) ∧ (lastP l k).1.length ≤ l.length:=by
 by_cases h : k < 0 ∨ (l.length : Int) ≤ k
 ·rw [lastP_out h]; exact ⟨(fun _ h => by cases h),Nat.zero_le _⟩
 ·obtain ⟨i,rfl⟩ : ∃ i : Nat,k = (i : Int):=⟨k.toNat,by omega⟩
  have hi : i < l.length:=by omega
  rw [lastP_in hi]
  cases hp : pastS l[i] (l.drop (i + 1)) with
  | none => rw [lastS_no hi hp]; exact ⟨(fun _ h => by cases h),Nat.zero_le _⟩
  | some z =>
   obtain ⟨ys,r⟩:=z
   rw [lastS_yes hi hp]
   obtain ⟨o1,o2,o3⟩:=okp_pasts _ _ (hl _ (List.getElem_mem hi)) (fun x hx => hl x (List.mem_of_mem_drop hx)) ys r hp
   refine ⟨fun p hp => ?_,?_⟩
   ·rcases List.mem_append.1 hp with hp | hp
    ·exact hl p (List.mem_of_mem_take hp)
    ·rcases List.mem_append.1 hp with hp | hp
     ·exact o2 p hp
     ·rw [List.mem_singleton.1 hp]; exact o1
   ·rw [List.length_append,List.length_append,List.length_take,o3,List.length_drop]
    simp only [List.length_cons,List.length_nil]
    omega
set_option maxHeartbeats 8000000 in
set_option maxRecDepth 100000 in
theorem tells11_calls (a b : List S24) (k : Int) (A : Option Addr) (ca : Nat) (B : Option Addr) (cb : Nat) (w : World) (qa : ∀ x ∈ a,Okq x) (qb : ∀ x ∈ b,Okq x) (na : a.length ≤ 140737488355328) (nb : b.length ≤ 140737488355328) (ga : Kd.C k24 w A a.length a) (hca : a.length ≤ ca) (gb : Kd.C k24 w B b.length b) (hcb : b.length ≤ cb) :
  Calls Tryd.prog 12 #[.slice A a.length ca,.slice B b.length cb,.int .i64 k] w fun e w' => e = .returned (.bool true) ∧ Below w.heap.size w w':=by
 have ha:=fun x hx => (qa x hx).ok
 have hb:=fun x hx => (qb x hx).ok
 go_enter Tryd.func12,Tryd.ntmps12
 go_wp2_with (fail)
 refine (head11_calls _).mono ?_
 rintro e w1 ⟨rfl,hb1⟩
 have hs1 : Below w.heap.size w w1:=two_steps (by repeat (first | exact Below.refl _ _ | refine Below.setCell ?_ (by simp <;> omega) _ | refine Below.alloc ?_ (by simp <;> omega) _ | refine Below.drew ?_)) hb1
 have hw1 : Below w.heap.size w w1:=(Below.refl w.heap.size w).trans (hs1.mono (Below.refl w.heap.size w).size)
 have ga:=Kd.C_below ga hs1
 have gb:=Kd.C_below gb hs1
 go_wp2_with (fail)
 obtain ⟨r,hg60,hg⟩:=greatList_at a A ca w1 na ha ga hca
 refine hg.mono ?_
 rintro e w2 ⟨rfl,hb2⟩
 have hs2 : Below w1.heap.size w1 w2:=two_steps (by repeat (first | exact Below.refl _ _ | refine Below.setCell ?_ (by simp <;> omega) _ | refine Below.alloc ?_ (by simp <;> omega) _ | refine Below.drew ?_)) hb2
 have hw2 : Below w.heap.size w w2:=hw1.trans (hs2.mono hw1.size)
 have ga:=Kd.C_below ga hs2
 have gb:=Kd.C_below gb hs2
 cases r with
 | true =>
  clear hg60
  go_wp2
  go_ret
  exact ⟨rfl,by repeat (first | with_reducible exact hw2 | refine Below.setCell ?_ (by have:=hw2.size; simp <;> omega) _ | refine Below.alloc ?_ (by have:=hw2.size; simp <;> omega) _ | refine Below.drew ?_)⟩
 | false =>
  have la:=Aside0.mk (hg60 rfl)
  clear hg60
  go_wp2_with (fail)
  obtain ⟨r,hg60,hg⟩:=greatList_at b B cb w2 nb hb gb hcb
  refine hg.mono ?_
  rintro e w3 ⟨rfl,hb3⟩
  have hs3 : Below w2.heap.size w2 w3:=two_steps (by repeat (first | exact Below.refl _ _ | refine Below.setCell ?_ (by simp <;> omega) _ | refine Below.alloc ?_ (by simp <;> omega) _ | refine Below.drew ?_)) hb3
  have hw3 : Below w.heap.size w w3:=hw2.trans (hs3.mono hw2.size)
  have ga:=Kd.C_below ga hs3
  have gb:=Kd.C_below gb hs3
  cases r with
  | true =>
   clear hg60
   go_wp2
   go_ret
   exact ⟨rfl,by repeat (first | with_reducible exact hw3 | refine Below.setCell ?_ (by have:=hw3.size; simp <;> omega) _ | refine Below.alloc ?_ (by have:=hw3.size; simp <;> omega) _ | refine Below.drew ?_)⟩
  | false =>
   have lb:=Aside0.mk (hg60 rfl)
   clear hg60
   have ta : Aside0 (a.length ≤ 1000):=⟨by have:=la.out; omega⟩
   have tb : Aside0 (b.length ≤ 1000):=⟨by have:=lb.out; omega⟩
   obtain ⟨o1,o2,l1,l2⟩:=swapP_okp ha hb
   obtain ⟨sx,sy,is,e1⟩ : ∃ x y i,swapP a b = (x,y,i):=⟨_,_,_,rfl⟩
   rw [e1] at o1 o2 l1 l2
   dsimp only at o1 o2 l1 l2
   replace e1:=Aside0.mk e1
   obtain ⟨o3,l3⟩:=lastP_okp (k:=k) ha
   obtain ⟨lx,il,e2⟩ : ∃ x i,lastP a k = (x,i):=⟨_,_,rfl⟩
   rw [e2] at o3 l3
   dsimp only at o3 l3
   replace e2:=Aside0.mk e2
   have n1 : Aside0 (sx.length ≤ 140737488355328):=⟨by have:=lb.out; omega⟩
   have n2 : Aside0 (sy.length ≤ 140737488355328):=⟨by have:=la.out; omega⟩
   have n3 : Aside0 (lx.length ≤ 140737488355328):=⟨by have:=la.out; omega⟩
   have o4:=coal_okp a ha
   have n4 : Aside0 ((coalS a).length ≤ 140737488355328):=⟨by have:=coal_len a; have:=la.out; omega⟩
   obtain ⟨cx,hcx⟩ : ∃ x,x = coalS a:=⟨_,rfl⟩
   rw [← hcx] at o4 n4
   replace hcx:=Aside0.mk hcx
   clear l1 l2 l3
   go_wp2_with (fail)
   refine (callsIn_wide.1 (swap_in a b A ca B cb _ ha hb ta.out tb.out (Kd.C_below ga (by repeat (first | exact Below.refl _ _ | refine Below.setCell ?_ (by simp <;> omega) _ | refine Below.alloc ?_ (by simp <;> omega) _ | refine Below.drew ?_))) (Kd.C_below gb (by repeat (first | exact Below.refl _ _ | refine Below.setCell ?_ (by simp <;> omega) _ | refine Below.alloc ?_ (by simp <;> omega) _ | refine Below.drew ?_))))).mono ?_
   intro e w4 h4
   unfold SwapPost at h4
   rw [e1.out] at h4
   dsimp only at h4
   obtain ⟨X1,x1,Y1,y1,rfl,gX1,hX1,gY1,hY1,hb4⟩:=h4
   have hs4 : Below w3.heap.size w3 w4:=two_steps (by repeat (first | exact Below.refl _ _ | refine Below.setCell ?_ (by simp <;> omega) _ | refine Below.alloc ?_ (by simp <;> omega) _ | refine Below.drew ?_)) hb4
   have hw4 : Below w.heap.size w w4:=hw3.trans (hs4.mono hw3.size)
   have ga:=Kd.C_below ga hs4
   have gb:=Kd.C_below gb hs4
   go_wp2_with (fail)
   refine (rswap_at a b A ca B cb _ qa qb ta.out tb.out (Kd.C_below ga (by repeat (first | exact Below.refl _ _ | refine Below.setCell ?_ (by simp <;> omega) _ | refine Below.alloc ?_ (by simp <;> omega) _ | refine Below.drew ?_))) (Kd.C_below gb (by repeat (first | exact Below.refl _ _ | refine Below.setCell ?_ (by simp <;> omega) _ | refine Below.alloc ?_ (by simp <;> omega) _ | refine Below.drew ?_))) hcb).mono ?_
   intro e w5 h4
   unfold SwapPost at h4
   rw [e1.out] at h4
   dsimp only at h4
   obtain ⟨X2,x2,Y2,y2,rfl,gX2,hX2,gY2,hY2,hb5⟩:=h4
   have hs5 : Below w4.heap.size w4 w5:=two_steps (by repeat (first | exact Below.refl _ _ | refine Below.setCell ?_ (by simp <;> omega) _ | refine Below.alloc ?_ (by simp <;> omega) _ | refine Below.drew ?_)) hb5
   have hw5 : Below w.heap.size w w5:=hw4.trans (hs5.mono hw4.size)
   have ga:=Kd.C_below ga hs5
   have gb:=Kd.C_below gb hs5
   have gX1:=Kd.C_below gX1 hs5
   have gY1:=Kd.C_below gY1 hs5
   go_wp2_with (fail)
   refine (last_at a k A ca _ ha ta.out (Kd.C_below ga (by repeat (first | exact Below.refl _ _ | refine Below.setCell ?_ (by simp <;> omega) _ | refine Below.alloc ?_ (by simp <;> omega) _ | refine Below.drew ?_))) hca).mono ?_
   intro e w6 h4
   unfold LastPost at h4
   rw [e2.out] at h4
   dsimp only at h4
   obtain ⟨X3,x3,rfl,gX3,hX3,hb6⟩:=h4
   have hs6 : Below w5.heap.size w5 w6:=two_steps (by repeat (first | exact Below.refl _ _ | refine Below.setCell ?_ (by simp <;> omega) _ | refine Below.alloc ?_ (by simp <;> omega) _ | refine Below.drew ?_)) hb6
   have hw6 : Below w.heap.size w w6:=hw5.trans (hs6.mono hw5.size)
   have ga:=Kd.C_below ga hs6
   have gb:=Kd.C_below gb hs6
   have gX1:=Kd.C_below gX1 hs6
   have gY1:=Kd.C_below gY1 hs6
   have gX2:=Kd.C_below gX2 hs6
   have gY2:=Kd.C_below gY2 hs6
   go_wp2_with (fail)
   refine (rlast_at a k A ca _ qa ta.out (Kd.C_below ga (by repeat (first | exact Below.refl _ _ | refine Below.setCell ?_ (by simp <;> omega) _ | refine Below.alloc ?_ (by simp <;> omega) _ | refine Below.drew ?_))) hca).mono ?_
   intro e w7 h4
   unfold LastPost at h4
   rw [e2.out] at h4
   dsimp only at h4
   obtain ⟨X4,x4,rfl,gX4,hX4,hb7⟩:=h4
   have hs7 : Below w6.heap.size w6 w7:=two_steps (by repeat (first | exact Below.refl _ _ | refine Below.setCell ?_ (by simp <;> omega) _ | refine Below.alloc ?_ (by simp <;> omega) _ | refine Below.drew ?_)) hb7
   have hw7 : Below w.heap.size w w7:=hw6.trans (hs7.mono hw6.size)
   have ga:=Kd.C_below ga hs7
   have gb:=Kd.C_below gb hs7
   have gX1:=Kd.C_below gX1 hs7
   have gY1:=Kd.C_below gY1 hs7
   have gX2:=Kd.C_below gX2 hs7
   have gY2:=Kd.C_below gY2 hs7
   have gX3:=Kd.C_below gX3 hs7
   go_wp2_with (fail)
   refine (sameList_at sx X1 x1 X2 x2 _ n1.out o1 (Kd.C_below gX1 (by repeat (first | exact Below.refl _ _ | refine Below.setCell ?_ (by simp <;> omega) _ | refine Below.alloc ?_ (by simp <;> omega) _ | refine Below.drew ?_))) hX1 (Kd.C_below gX2 (by repeat (first | exact Below.refl _ _ | refine Below.setCell ?_ (by simp <;> omega) _ | refine Below.alloc ?_ (by simp <;> omega) _ | refine Below.drew ?_))) hX2).mono ?_
   rintro e w8 ⟨rfl,hb8⟩
   have hs8 : Below w7.heap.size w7 w8:=two_steps (by repeat (first | exact Below.refl _ _ | refine Below.setCell ?_ (by simp <;> omega) _ | refine Below.alloc ?_ (by simp <;> omega) _ | refine Below.drew ?_)) hb8
   have hw8 : Below w.heap.size w w8:=hw7.trans (hs8.mono hw7.size)
   have ga:=Kd.C_below ga hs8
   have gb:=Kd.C_below gb hs8
   have gX1:=Kd.C_below gX1 hs8
   have gY1:=Kd.C_below gY1 hs8
   have gX2:=Kd.C_below gX2 hs8
   have gY2:=Kd.C_below gY2 hs8
   have gX3:=Kd.C_below gX3 hs8
   have gX4:=Kd.C_below gX4 hs8
   go_wp2_with (fail)
   refine (sameList_at sy Y1 y1 Y2 y2 _ n2.out o2 (Kd.C_below gY1 (by repeat (first | exact Below.refl _ _ | refine Below.setCell ?_ (by simp <;> omega) _ | refine Below.alloc ?_ (by simp <;> omega) _ | refine Below.drew ?_))) hY1 (Kd.C_below gY2 (by repeat (first | exact Below.refl _ _ | refine Below.setCell ?_ (by simp <;> omega) _ | refine Below.alloc ?_ (by simp <;> omega) _ | refine Below.drew ?_))) hY2).mono ?_
   rintro e w9 ⟨rfl,hb9⟩
   have hs9 : Below w8.heap.size w8 w9:=two_steps (by repeat (first | exact Below.refl _ _ | refine Below.setCell ?_ (by simp <;> omega) _ | refine Below.alloc ?_ (by simp <;> omega) _ | refine Below.drew ?_)) hb9
   have hw9 : Below w.heap.size w w9:=hw8.trans (hs9.mono hw8.size)
   have ga:=Kd.C_below ga hs9
   have gb:=Kd.C_below gb hs9
   have gX1:=Kd.C_below gX1 hs9
   have gY1:=Kd.C_below gY1 hs9
   have gX2:=Kd.C_below gX2 hs9
   have gY2:=Kd.C_below gY2 hs9
   have gX3:=Kd.C_below gX3 hs9
   have gX4:=Kd.C_below gX4 hs9
   go_wp2_with (fail)
   refine (sameList_at lx X3 x3 X4 x4 _ n3.out o3 (Kd.C_below gX3 (by repeat (first | exact Below.refl _ _ | refine Below.setCell ?_ (by simp <;> omega) _ | refine Below.alloc ?_ (by simp <;> omega) _ | refine Below.drew ?_))) hX3 (Kd.C_below gX4 (by repeat (first | exact Below.refl _ _ | refine Below.setCell ?_ (by simp <;> omega) _ | refine Below.alloc ?_ (by simp <;> omega) _ | refine Below.drew ?_))) hX4).mono ?_
   rintro e w10 ⟨rfl,hb10⟩
   have hs10 : Below w9.heap.size w9 w10:=two_steps (by repeat (first | exact Below.refl _ _ | refine Below.setCell ?_ (by simp <;> omega) _ | refine Below.alloc ?_ (by simp <;> omega) _ | refine Below.drew ?_)) hb10
   have hw10 : Below w.heap.size w w10:=hw9.trans (hs10.mono hw9.size)
   have ga:=Kd.C_below ga hs10
   have gb:=Kd.C_below gb hs10
   have gX1:=Kd.C_below gX1 hs10
   have gY1:=Kd.C_below gY1 hs10
   have gX2:=Kd.C_below gX2 hs10
   have gY2:=Kd.C_below gY2 hs10
   have gX3:=Kd.C_below gX3 hs10
   have gX4:=Kd.C_below gX4 hs10
   go_wp2_with (fail)
   refine (coal_at a A ca _ ha (by have:=ta.out; omega) (Kd.C_below ga (by repeat (first | exact Below.refl _ _ | refine Below.setCell ?_ (by simp <;> omega) _ | refine Below.alloc ?_ (by simp <;> omega) _ | refine Below.drew ?_))) hca).mono ?_
   rintro e w11 ⟨v,rfl,hv,hb11⟩
   rw [← hcx.out] at hv
   obtain ⟨D5,d5,rfl,hd5,gD5⟩:=row_C hv hb11
   clear hv
   have hs11 : Below w10.heap.size w10 w11:=two_steps (by repeat (first | exact Below.refl _ _ | refine Below.setCell ?_ (by simp <;> omega) _ | refine Below.alloc ?_ (by simp <;> omega) _ | refine Below.drew ?_)) hb11
   have hw11 : Below w.heap.size w w11:=hw10.trans (hs11.mono hw10.size)
   have ga:=Kd.C_below ga hs11
   have gb:=Kd.C_below gb hs11
   have gX1:=Kd.C_below gX1 hs11
   have gY1:=Kd.C_below gY1 hs11
   have gX2:=Kd.C_below gX2 hs11
   have gY2:=Kd.C_below gY2 hs11
   have gX3:=Kd.C_below gX3 hs11
   have gX4:=Kd.C_below gX4 hs11
   go_wp2_with (fail)
   refine (rcoal_at a A ca _ qa ta.out (Kd.C_below ga (by repeat (first | exact Below.refl _ _ | refine Below.setCell ?_ (by simp <;> omega) _ | refine Below.alloc ?_ (by simp <;> omega) _ | refine Below.drew ?_)))).mono ?_
   rintro e w12 ⟨v,rfl,hv,hb12⟩
   rw [← hcx.out] at hv
   obtain ⟨D6,d6,rfl,hd6,gD6⟩:=row_C hv hb12
   clear hv
   have hs12 : Below w11.heap.size w11 w12:=two_steps (by repeat (first | exact Below.refl _ _ | refine Below.setCell ?_ (by simp <;> omega) _ | refine Below.alloc ?_ (by simp <;> omega) _ | refine Below.drew ?_)) hb12
   have hw12 : Below w.heap.size w w12:=hw11.trans (hs12.mono hw11.size)
   have ga:=Kd.C_below ga hs12
   have gb:=Kd.C_below gb hs12
   have gX1:=Kd.C_below gX1 hs12
   have gY1:=Kd.C_below gY1 hs12
   have gX2:=Kd.C_below gX2 hs12
   have gY2:=Kd.C_below gY2 hs12
   have gX3:=Kd.C_below gX3 hs12
   have gX4:=Kd.C_below gX4 hs12
   have gD5:=Kd.C_below gD5 hs12
   go_wp2_with (fail)
   refine (sameList_at cx D5 d5 D6 d6 _ n4.out o4 (Kd.C_below gD5 (by repeat (first | exact Below.refl _ _ | refine Below.setCell ?_ (by simp <;> omega) _ | refine Below.alloc ?_ (by simp <;> omega) _ | refine Below.drew ?_))) hd5 (Kd.C_below gD6 (by repeat (first | exact Below.refl _ _ | refine Below.setCell ?_ (by simp <;> omega) _ | refine Below.alloc ?_ (by simp <;> omega) _ | refine Below.drew ?_))) hd6).mono ?_
   rintro e w13 ⟨rfl,hb13⟩
   have hs13 : Below w12.heap.size w12 w13:=two_steps (by repeat (first | exact Below.refl _ _ | refine Below.setCell ?_ (by simp <;> omega) _ | refine Below.alloc ?_ (by simp <;> omega) _ | refine Below.drew ?_)) hb13
   have hw13 : Below w.heap.size w w13:=hw12.trans (hs13.mono hw12.size)
   have ga:=Kd.C_below ga hs13
   have gb:=Kd.C_below gb hs13
   have gX1:=Kd.C_below gX1 hs13
   have gY1:=Kd.C_below gY1 hs13
   have gX2:=Kd.C_below gX2 hs13
   have gY2:=Kd.C_below gY2 hs13
   have gX3:=Kd.C_below gX3 hs13
   have gX4:=Kd.C_below gX4 hs13
   have gD5:=Kd.C_below gD5 hs13
   have gD6:=Kd.C_below gD6 hs13
   go_wp2
   go_ret
   exact ⟨rfl,by repeat (first | with_reducible exact hw13 | refine Below.setCell ?_ (by have:=hw13.size; simp <;> omega) _ | refine Below.alloc ?_ (by have:=hw13.size; simp <;> omega) _ | refine Below.drew ?_)⟩
end Go.Proofs.YthhohbidjhcjeaaDoor.H
namespace Go.Proofs.YthhohbidjhcjeaaDoor.Od
open Go.ChangeShapes Go.WideShapes Go.ChangeAt Go.RowKit Go.Proofs.YthhohbidjhcjeaaDoorW.PrintWords Go.Proofs.YthhohbidjhcjeaaDoorW.PrintMore Go.Proofs.YthhohbidjhcjeaaDoor.Q Go.Proofs.YthhohbidjhcjeaaDoor.Op Go.Proofs.YthhohbidjhcjeaaDoor.Pl
theorem oq24 : Opens Tryd.prog 24 k24 Okq:=by
 refine opens_imp (opens_iso (fun x : S24 => (x.f0,x.f1,x.f2,x.f3,x.f4,x.f5,x.f6)) (fun x => ⟨x.1,x.2.1,x.2.2.1,x.2.2.2.1,x.2.2.2.2.1,x.2.2.2.2.2.1,x.2.2.2.2.2.2⟩) (fun _ => rfl) (opens_struct (P:=Tryd.prog) Tryd.underlying24 (by kernel_rfl)
  (opensAt_cons o3 rfl (by kernel_rfl) (opensAt_cons o9 rfl (by kernel_rfl) (opensAt_cons o9 rfl (by kernel_rfl) (opensAt_cons o9 rfl (by kernel_rfl) (opensAt_cons o3 rfl (by kernel_rfl) (opensAt_cons o22 rfl (by kernel_rfl) (opensAt_one o22 rfl (by kernel_rfl)))))))))) ?_
 rintro a ⟨_,h1,h2,h3,_,⟨_,h5,k5⟩,⟨_,h6,k6⟩⟩
 dsimp only at h1 h2 h3 h5 h6 k5 k6
 exact ⟨⟨⟨by omega,by omega⟩,by omega,by omega,by omega⟩,(fun s hs => Nat.le_trans (k5 s hs) (by decide)),(fun s hs => Nat.le_trans (k6 s hs) (by decide))⟩
theorem oq25 : Opens Tryd.prog 25 (Kd.slice 24 k24) (fun xs => xs.length ≤ maxLen ∧ xs.length * 112 ≤ 140737488351232 ∧ ∀ x ∈ xs,Okq x):=opens_slice (P:=Tryd.prog) 112 (by kernel_rfl) oq24 (by kernel_rfl) (by kernel_rfl)
end Go.Proofs.YthhohbidjhcjeaaDoor.Od
namespace Go.Proofs.YthhohbidjhcjeaaDoor.RSeqTells
open Go.ChangeShapes Go.WideShapes Go.ChangeAt Go.RowKit Go.Proofs.YthhohbidjhcjeaaDoorW.PrintWords Go.Proofs.YthhohbidjhcjeaaDoorW.PrintMore Go.Proofs.YthhohbidjhcjeaaDoor.Q Go.Proofs.YthhohbidjhcjeaaDoor.Op Go.Proofs.YthhohbidjhcjeaaDoor.Pl Go.Proofs.YthhohbidjhcjeaaDoor.Od
set_option maxRecDepth 100000 in
theorem lifted (os : Os) (started : os.Started) (H : Type) (enc : TypeId × Value → H) :
  ReturnsInHanded {} Tryd.checked os 12 .any (fun w args => (Rows.seqTellsSpec.pre enc Tryd.prog Tryd.f12 [] false w args ∧ laidMetH Tryd.prog laidTabs w) ∧ sizedMet enc Tryd.prog Tryd.f12 (OpenSpec.ofChange Rows.seqTellsSpec) false w args)
   (Rows.seqTellsSpec.post enc Tryd.prog Tryd.f12 false true false false):=by
 refine returnsInHanded_of_change_and (C:=Tryd.checked) (X:=fun w _ => laidMetH Tryd.prog laidTabs w) (fun _ _ _ hh h => h.of_heap hh) own started (by kernel_rfl) Tryd.func12
  (ChangeSpec.witness_shaped (enc:=enc) (C:=Tryd.checked) (os:=os) (X:=fun w _ => laidMetH Tryd.prog laidTabs w) false (World.laidAll Tryd.prog os laidTabs) #[.slice none 0 0,.slice none 0 0,.int .i64 0] 8 (World.laidAll_os _ _ _)
   (World.shaped_of_ZipB (by kernel_rfl) (by kernel_rfl)) (by kernel_rfl) (by kernel_rfl) (by kernel_rfl)
   (by rw [MakeChecks.laidMetH_plain _ _ _ (by kernel_rfl)]; exact laidMet_laidAll _ (by kernel_rfl) (by kernel_rfl))) ?_
 intro W base args ds gs before hval0 hW _ hsz0 hL _
 have hsz : (DataW.weightsEach Tryd.prog (Tryd.f12.params.toList ++ Rows.seqTellsSpec.plain.varTypes Tryd.prog) (ds ++ gs)).all (· ≤ reachBytes) = true:=hsz0
 have hval : ∀ (j : Nat) t v,Tryd.f12.params[j]? = some t → args[j]? = some v → Value.okWide Tryd.prog W .any base t v:=hval0
 have hW':=hW
 obtain ⟨p,q,hA0,hV,rfl,hfz,hnd⟩:=hW
 have hA : DataW.TrodAll enc Tryd.prog W 0 (fun _ => true) true Tryd.f12.params.toList args.toList ds p:=hA0
 rw [Tryd.params12] at hA hval hsz
 obtain ⟨v0,vs0,d0,ds0,p0,q0,hargs,rfl,rfl,h0,r0⟩:=trodAll_cons hA
 obtain ⟨v1,vs1,d1,ds1,p1,q1,rfl,rfl,rfl,h1,r1⟩:=trodAll_cons r0
 obtain ⟨v2,vs2,d2,ds2,p2,q2,rfl,rfl,rfl,h2,r2⟩:=trodAll_cons r1
 obtain ⟨rfl,rfl,rfl⟩:=trodAll_nil r2
 obtain rfl : args = #[v0,v1,v2]:=by cases args; simp_all
 obtain ⟨rfl,rfl⟩:=trodVars_none hV
 have k0:=h0
 have lt0 : ∀ x ∈ p0,x.block < W.heap.size:=by obtain ⟨m,hm⟩:=k0; exact DataW.trod_lt m _ _ _ hm
 obtain ⟨x0,hK0,hG0⟩:=opened oq25 h0 hsz (j:=0) rfl rfl
 obtain ⟨B0,u0,hc0,lu0,g0⟩:=hK0
 obtain ⟨b0,n0,m0,rfl⟩:=okWide_slice Tryd.underlying25 (hval 0 25 v0 rfl rfl)
 obtain ⟨rfl,rfl,rfl⟩ : b0 = B0 ∧ n0 = x0.length ∧ m0 = u0:=by simpa [Value.cells] using hc0
 obtain ⟨_,hb0,hg0⟩:=hG0
 have k1:=h1
 have lt1 : ∀ x ∈ p1,x.block < W.heap.size:=by obtain ⟨m,hm⟩:=k1; exact DataW.trod_lt m _ _ _ hm
 obtain ⟨x1,hK1,hG1⟩:=opened oq25 h1 hsz (j:=1) rfl rfl
 obtain ⟨B1,u1,hc1,lu1,g1⟩:=hK1
 obtain ⟨b1,n1,m1,rfl⟩:=okWide_slice Tryd.underlying25 (hval 1 25 v1 rfl rfl)
 obtain ⟨rfl,rfl,rfl⟩ : b1 = B1 ∧ n1 = x1.length ∧ m1 = u1:=by simpa [Value.cells] using hc1
 obtain ⟨_,hb1,hg1⟩:=hG1
 have k2:=h2
 have lt2 : ∀ x ∈ p2,x.block < W.heap.size:=by obtain ⟨m,hm⟩:=k2; exact DataW.trod_lt m _ _ _ hm
 obtain ⟨x2,hK2,hG2⟩:=opened o3 h2 hsz (j:=2) rfl rfl
 obtain ⟨n2,rfl⟩:=okWide_int Tryd.underlying3 (hval 2 3 v2 rfl rfl)
 obtain rfl : x2 = n2:=by have h_ : [Value.int .i64 n2] = [Value.int .i64 x2]:=hK2; simpa using h_.symm
 clear hA0 hval0 hsz0 hsz
 refine (Go.Proofs.YthhohbidjhcjeaaDoor.H.tells11_calls x0 x1 x2 b0 m0 b1 m1 W hg0 hg1 (by omega) (by omega) g0 lu0 g1 lu1).mono fun e W' ⟨he,bel⟩ => ?_
 subst he
 exact ⟨_,rfl,_,_,_,[],_,[],hW',trodAll_mk1 (shut_bool Tryd.underlying4 _),(trodAll_cons_mk (Below.trod laidOut (by kernel_rfl) (of_decide_eq_true (by kernel_rfl)) k0 bel lt0) (trodAll_cons_mk (Below.trod laidOut (by kernel_rfl) (of_decide_eq_true (by kernel_rfl)) k1 bel lt1) (trodAll_cons_mk (Below.trod laidOut (by kernel_rfl) (of_decide_eq_true (by kernel_rfl)) k2 bel lt2) trodAll_mk0))),rfl,bel.frame _,fun h => by cases h⟩
theorem over : Rows.seqTellsRow.holds Tryd.pinned (OpenSpec.ofChange Rows.seqTellsSpec) :=
 OpenClaim.holds_of_wide 12 Tryd.f12 rfl rfl rfl rfl rfl rfl rfl ⟨rfl,rfl,rfl,rfl,rfl⟩ rfl rfl rfl rfl rfl (by kernel_rfl) Tryd.func12 (by kernel_rfl)
  (of_decide_eq_true (by kernel_rfl)) (by unfold Func.isWrapper; first | (rw [if_pos (by decide +kernel)]; kernel_rfl) | (rw [if_neg (by decide +kernel)]; exact ⟨rfl,rfl⟩))
  (fun os started H enc _ => lifted os started H enc)
theorem card : Rows.SeqTellsCardSaid :=
 Claim7.holds_tied_plain_at .later [] [.data, .pinned] true (true, "0a251ecfe7ff6804b17a262088b2e9602ece1cbe531fc6497e775b1d705626d6") false over (fun _ h => by cases h) (by kernel_rfl) (fun _ h => by cases h) seqTells_row_tie rfl ⟨rfl, rfl⟩ (by kernel_rfl) rfl
  (fun f fn hf hfn => by
   obtain rfl : f = 12:=Option.some.inj ((show Tryd.prog.funcNamed Rows.seqTellsRow.func = some 12 by kernel_rfl).symm.trans hf) |>.symm
   obtain rfl : fn = Tryd.f12:=(Option.some.inj (Tryd.func12.symm.trans hfn)).symm
   exact ⟨by kernel_rfl,fun j t ht => by
    rw [Tryd.params12] at ht
    have hm : t ∈ [25,25,3]:=by simpa using Array.mem_of_getElem? ht
    have hall : ([25,25,3].all fun u => !Tryd.prog.wantsStandIn u) = true:=by kernel_rfl
    exact (show Tryd.prog.wantsStandIn t = false by simpa using List.all_eq_true.1 hall t hm)⟩)
  (by kernel_rfl)
end Go.Proofs.YthhohbidjhcjeaaDoor.RSeqTells
namespace Go.Proofs.YthhohbidjhcjeaaDoor
/-- The card of SeqTells. -/
theorem SeqTells_card : Rows.SeqTellsCardSaid:=RSeqTells.card
#print axioms SeqTells_card
end Go.Proofs.YthhohbidjhcjeaaDoor
