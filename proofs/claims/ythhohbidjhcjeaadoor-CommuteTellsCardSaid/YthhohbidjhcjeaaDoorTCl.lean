/- The live question of layer 10's laws answers true. -/
import Derived.Test.YthhohbidjhcjeaaDoorTCp
import Derived.Test.YthhohbidjhcjeaaDoorTNN
namespace Go.Proofs.YthhohbidjhcjeaaDoor.H
open Go.RowKit Go.Proofs.YthhohbidjhcjeaaDoorW.PrintWords Go.Proofs.YthhohbidjhcjeaaDoorW.PrintLast Go.Proofs.YthhohbidjhcjeaaDoorW.PrintMore
open Go.Proofs.YthhohbidjhcjeaaDoor.Q Go.Proofs.YthhohbidjhcjeaaDoor.Pl

abbrev P0 : S24:=⟨7,⟨#[97]⟩,⟨#[]⟩,⟨#[]⟩,0,[⟨#[120]⟩],[⟨#[121]⟩,⟨#[122]⟩]⟩
abbrev Q0 : S24:=⟨7,⟨#[97]⟩,⟨#[]⟩,⟨#[]⟩,5,[⟨#[119]⟩],[]⟩
abbrev A0 : S24:=⟨7,⟨#[97]⟩,⟨#[]⟩,⟨#[]⟩,4,[⟨#[119]⟩],[]⟩
abbrev M0 : S24:=⟨10,⟨#[109]⟩,⟨#[110]⟩,⟨#[]⟩,0,[],[]⟩
abbrev N0 : S24:=⟨9,⟨#[110,47,120]⟩,⟨#[49]⟩,⟨#[]⟩,0,[],[]⟩
abbrev N1 : S24:=⟨9,⟨#[109,47,120]⟩,⟨#[49]⟩,⟨#[]⟩,0,[],[]⟩
theorem yes1 : Yes P0 Q0 A0 P0:=⟨by decide +kernel,by decide +kernel,by decide +kernel,by decide +kernel,by kernel_rfl⟩
theorem yes2 : Yes M0 N0 N1 M0:=⟨by decide +kernel,by decide +kernel,by decide +kernel,by decide +kernel,by kernel_rfl⟩
theorem not3 : (comm P0 P0).2.2 = false:=comm_own (p:=P0) ⟨by decide,by decide⟩
theorem past4 : past P0 [Q0] = ([A0],P0,true):=by
 have h : pastS P0 [Q0] = some ([A0],P0):=by rw [pastS,comm_of yes1,if_pos rfl,pastS]; rfl
 unfold past
 rw [h]
theorem ok_P : Okp P0:=⟨⟨by decide,by decide⟩,by decide,by decide,by decide⟩
theorem ok_Q : Okp Q0:=⟨⟨by decide,by decide⟩,by decide,by decide,by decide⟩
theorem ok_M : Okp M0:=⟨⟨by decide,by decide⟩,by decide,by decide,by decide⟩
theorem ok_N : Okp N0:=⟨⟨by decide,by decide⟩,by decide,by decide,by decide⟩
theorem rd_nil (W : World) (x : S24) (h5 : x.f5 = []) (h6 : x.f6 = []) : Rd W x none 0 none 0:=by
 rw [show x = { x with f5:=[],f6:=[] } from by cases x; cases h5; cases h6; rfl]
 exact ⟨Kd.C_nil _ _,Nat.le_refl _,Kd.C_nil _ _,Nat.le_refl _⟩
theorem five (w : World) (o1 o2 o3 o4 o5 : Obj) : (((((w.alloc o1).alloc o2).alloc o3).alloc o4).alloc o5).heap[w.heap.size]? = some o1 ∧ (((((w.alloc o1).alloc o2).alloc o3).alloc o4).alloc o5).heap[w.heap.size + 1]? = some o2 ∧ (((((w.alloc o1).alloc o2).alloc o3).alloc o4).alloc o5).heap[w.heap.size + 1 + 1]? = some o3 ∧ (((((w.alloc o1).alloc o2).alloc o3).alloc o4).alloc o5).heap[w.heap.size + 1 + 1 + 1]? = some o4 ∧ (((((w.alloc o1).alloc o2).alloc o3).alloc o4).alloc o5).heap[w.heap.size + 1 + 1 + 1 + 1]? = some o5 ∧ Below w.heap.size w (((((w.alloc o1).alloc o2).alloc o3).alloc o4).alloc o5):=by
 refine ⟨blk_alloc (blk_alloc (blk_alloc (box1 w o1 o2) _) _) _,blk_alloc (blk_alloc (blk_alloc (box2 w o1 o2) _) _) _,?_,?_,?_,?_⟩
 ·have h:=blk_alloc (box1 ((w.alloc o1).alloc o2) o3 o4) o5
  simpa using h
 ·have h:=blk_alloc (box2 ((w.alloc o1).alloc o2) o3 o4) o5
  simpa using h
 ·have h:=blk_new ((((w.alloc o1).alloc o2).alloc o3).alloc o4) o5
  simpa using h
 ·exact (((((Below.refl _ w).alloc (Nat.le_refl _) _).alloc (by simp) _).alloc (by simp; omega) _).alloc (by simp; omega) _).alloc (by simp; omega) _
theorem rdP (w : World) (o3 o4 o5 : Obj) : Rd (((((w.alloc (.cells #[.string ⟨#[120]⟩] 9)).alloc (.cells #[.string ⟨#[121]⟩,.string ⟨#[122]⟩] 9)).alloc o3).alloc o4).alloc o5) P0 (some ⟨w.heap.size,0,none⟩) 1 (some ⟨w.heap.size + 1,0,none⟩) 2 :=
 ⟨texts_read (l:=[⟨#[120]⟩]) (five w _ _ _ _ _).1 (by decide),Nat.le_refl _,texts_read (l:=[⟨#[121]⟩,⟨#[122]⟩]) (five w _ _ _ _ _).2.1 (by decide),Nat.le_refl _⟩
theorem rdQ (w : World) (o1 o2 o3 o5 : Obj) : Rd (((((w.alloc o1).alloc o2).alloc o3).alloc (.cells #[.string ⟨#[119]⟩] 9)).alloc o5) Q0 (some ⟨w.heap.size + 1 + 1 + 1,0,none⟩) 1 none 0 :=
 ⟨texts_read (l:=[⟨#[119]⟩]) (five w _ _ _ _ _).2.2.2.1 (by decide),Nat.le_refl _,Kd.C_nil _ _,Nat.le_refl _⟩
theorem lit1 (w : World) (x : S24) (c : List Value) (h : Kd.FK k24 w (fun k => k < w.heap.size) x c) : Kd.C k24 (w.alloc (.cells c.toArray 24)) (some ⟨w.heap.size,0,none⟩) 1 [x]:=by
 have hr : Reps (fun x c => Kd.FK k24 w (fun k => k < w.heap.size) x c) k24.sz [x] ([] ++ c):=(Reps.none _ _).snoc h (Kd.FK_raw h).2.1
 have ho : Kd.NN k24 24 (w.alloc (.cells c.toArray 24)) w.heap.size (fun k => k < w.heap.size) (.slice (some ⟨w.heap.size,0,none⟩) 1 1) [x] :=
  OwnRow.lit w w.heap.size (hr.imp_ (fun _ _ h => Kd.FK_below h (below_alloc (Below.refl _ _) _))) (Nat.le_refl _) (by simp)
 exact (Kd.N_reads' (Kd.NN_N ho (fun _ h => h))).2.2
set_option maxRecDepth 100000 in
set_option maxHeartbeats 4000000 in
theorem head10_calls (w : World) : Calls Tryd.prog 23 #[] w fun e w' => e = .returned (.bool true) ∧ Below w.heap.size w w':=by
 go_enter Tryd.func23,Tryd.ntmps23
 go_wp2_with (fail)
 refine (comm_is P0 Q0 (some ⟨w.heap.size,0,none⟩) 1 (some ⟨w.heap.size + 1,0,none⟩) 2 (some ⟨w.heap.size + 1 + 1 + 1,0,none⟩) 1 none 0 _ ok_P ok_Q (rdP w _ _ _) (rdQ w _ _ _ _) yes1).mono ?_
 rintro e w1 ⟨rfl,hb1⟩
 have hw1 : Below w.heap.size w w1:=(five w _ _ _ _ _).2.2.2.2.2.trans (hb1.mono (five w _ _ _ _ _).2.2.2.2.2.size)
 have rp:=(rdP w _ _ _).below hb1
 have rq:=(rdQ w _ _ _ _).below hb1
 have xp:=blk_below (five w _ _ _ _ _).2.2.1 hb1
 have xq:=blk_below (five w _ _ _ _ _).2.2.2.2.1 hb1
 obtain ⟨pc0,pc1,pc2,pc3,pc4,pc5,pc6⟩:=cells7 xp
 obtain ⟨qc0,qc1,qc2,qc3,qc4,qc5,qc6⟩:=cells7 xq
 obtain ⟨pd0,pd1,pd2,pd3,pd4,pd5,pd6⟩:=deep2 xp
 obtain ⟨qd0,qd1,qd2,qd3,qd4,qd5,qd6⟩:=deep2 xq
 go_wp2_with (fail)
 refine (comm_is M0 N0 none 0 none 0 none 0 none 0 _ ok_M ok_N (rd_nil _ _ rfl rfl) (rd_nil _ _ rfl rfl) yes2).mono ?_
 rintro e w2 ⟨rfl,hb2⟩
 clear pc0 pc1 pc2 pc3 pc4 pc5 pc6 qc0 qc1 qc2 qc3 qc4 qc5 qc6 pd0 pd1 pd2 pd3 pd4 pd5 pd6 qd0 qd1 qd2 qd3 qd4 qd5 qd6
 have hs2 : Below w1.heap.size w1 w2:=two_steps (by repeat (first | exact Below.refl _ _ | refine Below.setCell ?_ (by simp <;> omega) _ | refine Below.alloc ?_ (by simp <;> omega) _ | refine Below.drew ?_)) hb2
 have hw2 : Below w.heap.size w w2:=hw1.trans (hs2.mono hw1.size)
 have xp:=blk_below xp hs2
 have xq:=blk_below xq hs2
 have rp:=rp.below hs2
 have rq:=rq.below hs2
 have xa : w2.heap[w1.heap.size]? = some (.cells #[.int .i64 7,.string ⟨#[97]⟩,.string ⟨#[]⟩,.string ⟨#[]⟩,.int .i64 4,.slice (some ⟨w.heap.size + 1 + 1 + 1,0,none⟩) 1 1,.slice none 0 0] 24 (0,0)):=blk_below (box1 w1 _ _) hb2
 have xb : w2.heap[w1.heap.size + 1]? = some (.cells #[.int .i64 7,.string ⟨#[97]⟩,.string ⟨#[]⟩,.string ⟨#[]⟩,.int .i64 0,.slice (some ⟨w.heap.size,0,none⟩) 1 1,.slice (some ⟨w.heap.size + 1,0,none⟩) 2 2] 24 (0,0)):=blk_below (box2 w1 _ _) hb2
 obtain ⟨pc0,pc1,pc2,pc3,pc4,pc5,pc6⟩:=cells7 xp
 obtain ⟨qc0,qc1,qc2,qc3,qc4,qc5,qc6⟩:=cells7 xq
 obtain ⟨ac0,ac1,ac2,ac3,ac4,ac5,ac6⟩:=cells7 xa
 obtain ⟨bc0,bc1,bc2,bc3,bc4,bc5,bc6⟩:=cells7 xb
 obtain ⟨pd0,pd1,pd2,pd3,pd4,pd5,pd6⟩:=deep2 xp
 obtain ⟨qd0,qd1,qd2,qd3,qd4,qd5,qd6⟩:=deep2 xq
 obtain ⟨ad0,ad1,ad2,ad3,ad4,ad5,ad6⟩:=deep2 xa
 obtain ⟨bd0,bd1,bd2,bd3,bd4,bd5,bd6⟩:=deep2 xb
 go_wp2_with (fail)
 refine (comm_not P0 P0 (some ⟨w.heap.size,0,none⟩) 1 (some ⟨w.heap.size + 1,0,none⟩) 2 (some ⟨w.heap.size,0,none⟩) 1 (some ⟨w.heap.size + 1,0,none⟩) 2 _ ok_P ok_P (rp.below (by repeat (first | exact Below.refl _ _ | refine Below.setCell ?_ (by simp <;> omega) _ | refine Below.alloc ?_ (by simp <;> omega) _ | refine Below.drew ?_))) (rp.below (by repeat (first | exact Below.refl _ _ | refine Below.setCell ?_ (by simp <;> omega) _ | refine Below.alloc ?_ (by simp <;> omega) _ | refine Below.drew ?_))) not3).mono ?_
 rintro e w3 ⟨rfl,hb3⟩
 clear pc0 pc1 pc2 pc3 pc4 pc5 pc6 qc0 qc1 qc2 qc3 qc4 qc5 qc6 ac0 ac1 ac2 ac3 ac4 ac5 ac6 bc0 bc1 bc2 bc3 bc4 bc5 bc6 pd0 pd1 pd2 pd3 pd4 pd5 pd6 qd0 qd1 qd2 qd3 qd4 qd5 qd6 ad0 ad1 ad2 ad3 ad4 ad5 ad6 bd0 bd1 bd2 bd3 bd4 bd5 bd6
 have hs3 : Below w2.heap.size w2 w3:=two_steps (by repeat (first | exact Below.refl _ _ | refine Below.setCell ?_ (by simp <;> omega) _ | refine Below.alloc ?_ (by simp <;> omega) _ | refine Below.drew ?_)) hb3
 have hw3 : Below w.heap.size w w3:=hw2.trans (hs3.mono hw2.size)
 have xp:=blk_below xp hs3
 have xq:=blk_below xq hs3
 have xa:=blk_below xa hs3
 have xb:=blk_below xb hs3
 have rp:=rp.below hs3
 have rq:=rq.below hs3
 have xc : w3.heap[w2.heap.size]? = some (.cells #[.int .i64 9,.string ⟨#[109,47,120]⟩,.string ⟨#[49]⟩,.string ⟨#[]⟩,.int .i64 0,.slice none 0 0,.slice none 0 0] 24 (0,0)):=blk_below (box1 w2 _ _) hb3
 have xd : w3.heap[w2.heap.size + 1]? = some (.cells #[.int .i64 10,.string ⟨#[109]⟩,.string ⟨#[110]⟩,.string ⟨#[]⟩,.int .i64 0,.slice none 0 0,.slice none 0 0] 24 (0,0)):=blk_below (box2 w2 _ _) hb3
 obtain ⟨pc0,pc1,pc2,pc3,pc4,pc5,pc6⟩:=cells7 xp
 obtain ⟨qc0,qc1,qc2,qc3,qc4,qc5,qc6⟩:=cells7 xq
 obtain ⟨ac0,ac1,ac2,ac3,ac4,ac5,ac6⟩:=cells7 xa
 obtain ⟨bc0,bc1,bc2,bc3,bc4,bc5,bc6⟩:=cells7 xb
 obtain ⟨cc0,cc1,cc2,cc3,cc4,cc5,cc6⟩:=cells7 xc
 obtain ⟨dc0,dc1,dc2,dc3,dc4,dc5,dc6⟩:=cells7 xd
 obtain ⟨pd0,pd1,pd2,pd3,pd4,pd5,pd6⟩:=deep2 xp
 obtain ⟨qd0,qd1,qd2,qd3,qd4,qd5,qd6⟩:=deep2 xq
 obtain ⟨ad0,ad1,ad2,ad3,ad4,ad5,ad6⟩:=deep2 xa
 obtain ⟨bd0,bd1,bd2,bd3,bd4,bd5,bd6⟩:=deep2 xb
 obtain ⟨cd0,cd1,cd2,cd3,cd4,cd5,cd6⟩:=deep2 xc
 obtain ⟨dd0,dd1,dd2,dd3,dd4,dd5,dd6⟩:=deep2 xd
 go_wp2_with (fail)
 have hT : Below w3.heap.size w3 ((w3.alloc (.cells #[.int .i64 0,.string ⟨#[]⟩,.string ⟨#[]⟩,.string ⟨#[]⟩,.int .i64 0,.slice none 0 0,.slice none 0 0] 24)).alloc (.cells #[.int .i64 0,.string ⟨#[]⟩,.string ⟨#[]⟩,.string ⟨#[]⟩,.int .i64 0,.slice none 0 0,.slice none 0 0] 24)):=by repeat (first | exact Below.refl _ _ | refine Below.setCell ?_ (by simp <;> omega) _ | refine Below.alloc ?_ (by simp <;> omega) _ | refine Below.drew ?_)
 have gl:=lit1 ((w3.alloc (.cells #[.int .i64 0,.string ⟨#[]⟩,.string ⟨#[]⟩,.string ⟨#[]⟩,.int .i64 0,.slice none 0 0,.slice none 0 0] 24)).alloc (.cells #[.int .i64 0,.string ⟨#[]⟩,.string ⟨#[]⟩,.string ⟨#[]⟩,.int .i64 0,.slice none 0 0,.slice none 0 0] 24)) Q0 [.int .i64 7,.string ⟨#[97]⟩,.string ⟨#[]⟩,.string ⟨#[]⟩,.int .i64 5,.slice (some ⟨w.heap.size + 1 + 1 + 1,0,none⟩) 1 1,.slice none 0 0] (k24_mkF _ _ Q0 (rq.below hT).l5 (Kd.C_F Kd.heap_string (rq.below hT).g5) (rq.below hT).l6 (Kd.C_F Kd.heap_string (rq.below hT).g6))
 simp only [World.size_alloc] at gl
 refine (past_at P0 [Q0] (some ⟨w.heap.size,0,none⟩) 1 (some ⟨w.heap.size + 1,0,none⟩) 2 (some ⟨w3.heap.size + 1 + 1,0,none⟩) 1 _ ok_P (by intro x hx; rw [List.mem_singleton.1 hx]; exact ok_Q) (by decide) (rp.below (by repeat (first | exact Below.refl _ _ | refine Below.setCell ?_ (by simp <;> omega) _ | refine Below.alloc ?_ (by simp <;> omega) _ | refine Below.drew ?_))) gl (Nat.le_refl _)).mono ?_
 intro e w4 h4
 unfold PastPost at h4
 rw [past4] at h4
 obtain ⟨D,d,C5,e5,C6,e6,rfl,gD,hD,rD,hb4⟩:=h4
 clear gl gD hD rD
 clear pc0 pc1 pc2 pc3 pc4 pc5 pc6 qc0 qc1 qc2 qc3 qc4 qc5 qc6 ac0 ac1 ac2 ac3 ac4 ac5 ac6 bc0 bc1 bc2 bc3 bc4 bc5 bc6 cc0 cc1 cc2 cc3 cc4 cc5 cc6 dc0 dc1 dc2 dc3 dc4 dc5 dc6 pd0 pd1 pd2 pd3 pd4 pd5 pd6 qd0 qd1 qd2 qd3 qd4 qd5 qd6 ad0 ad1 ad2 ad3 ad4 ad5 ad6 bd0 bd1 bd2 bd3 bd4 bd5 bd6 cd0 cd1 cd2 cd3 cd4 cd5 cd6 dd0 dd1 dd2 dd3 dd4 dd5 dd6
 have hs4 : Below w3.heap.size w3 w4:=two_steps (by repeat (first | exact Below.refl _ _ | refine Below.setCell ?_ (by simp <;> omega) _ | refine Below.alloc ?_ (by simp <;> omega) _ | refine Below.drew ?_)) hb4
 have hw4 : Below w.heap.size w w4:=hw3.trans (hs4.mono hw3.size)
 clear hT
 have xp:=blk_below xp hs4
 have xq:=blk_below xq hs4
 have xa:=blk_below xa hs4
 have xb:=blk_below xb hs4
 have xc:=blk_below xc hs4
 have xd:=blk_below xd hs4
 obtain ⟨ad0,ad1,ad2,ad3,ad4,ad5,ad6⟩:=deep1 xa
 obtain ⟨bd0,bd1,bd2,bd3,bd4,bd5,bd6⟩:=deep1 xb
 obtain ⟨cd0,cd1,cd2,cd3,cd4,cd5,cd6⟩:=deep1 xc
 obtain ⟨dd0,dd1,dd2,dd3,dd4,dd5,dd6⟩:=deep1 xd
 go_wp2
 go_ret
 exact ⟨rfl,by repeat (first | with_reducible exact hw4 | refine Below.alloc ?_ (by have:=hw4.size; simp <;> omega) _)⟩
end Go.Proofs.YthhohbidjhcjeaaDoor.H
