/- prim.changing's function: a thing of a tree changed. -/
import Derived.Test.YthhohbidjhcjeaaGreatDoorBM5
import Derived.Shelf.SlSortCmp.WholeK
import Derived.Lib.OwnBridge
import Derived.Deep.LoopGhost
namespace Go.Proofs.YthhohbidjhcjeaaGreatDoor.H
open Go.RowKit Go.Shelf Go.Proofs.YthhohbidjhcjeaaGreatDoorW.PrintWords Go.Proofs.YthhohbidjhcjeaaGreatDoorW.PrintLast Go.Proofs.YthhohbidjhcjeaaGreatDoorW.PrintMore
open Go.Proofs.YthhohbidjhcjeaaGreatDoor.Q Go.Proofs.YthhohbidjhcjeaaGreatDoor.Pl
set_option linter.unusedVariables false
set_option linter.unusedSimpArgs false
theorem reps_set {w W' : World} {l : List S41} {inner : List Value} {cur cur' : Array Value} {i : Nat} {y : S41} {Y : Option Addr} {d : Nat} (hr : Reps (Rw w) 4 l inner) (hin : cur.toList.take (l.length * 4) = inner) (hsz : l.length * 4 ≤ cur.size) (hb : Below w.heap.size w W')
  (hs : SameBut (i * 4) cur cur') (hi : i < l.length) (he : Ent cur' (i * 4) y Y d) (ry : Re W' y Y d) : Reps (Rw W') 4 (l.set i y) (cur'.toList.take (l.length * 4)):=by
 obtain ⟨hs1,hs2⟩:=hs
 have hcl : cur'.toList.length = cur.size:=by rw [Array.length_toList,hs1]
 refine ⟨by rw [List.length_take,hcl,List.length_set]; omega,fun j q hq => ?_⟩
 have hj : j < l.length:=by
  have:=(List.getElem?_eq_some_iff.1 hq).1
  rwa [List.length_set] at this
 rw [List.getElem?_set] at hq
 by_cases hij : i = j
 ·subst hij
  rw [if_pos rfl,if_pos hi] at hq
  have:=Option.some.inj hq
  subst this
  refine ⟨Y,d,?_,ry⟩
  apply List.ext_getElem?
  intro k
  rw [List.getElem?_take,List.getElem?_drop,List.getElem?_take]
  match k with
  | 0 => rw [if_pos (by omega),if_pos (by omega)]; simpa using he.c0
  | 1 => rw [if_pos (by omega),if_pos (by omega)]; simpa using he.c1
  | 2 => rw [if_pos (by omega),if_pos (by omega)]; simpa using he.c2
  | 3 => rw [if_pos (by omega),if_pos (by omega)]; simpa using he.c3
  | _ + 4 => rw [if_neg (by omega)]; simp
 ·rw [if_neg hij] at hq
  obtain ⟨X,c,e,rx⟩:=hr.2 j q hq
  refine ⟨X,c,?_,rx.later hb⟩
  rw [← e,← hin]
  apply List.ext_getElem?
  intro k
  rw [List.getElem?_take,List.getElem?_drop,List.getElem?_take,List.getElem?_take,List.getElem?_drop,List.getElem?_take]
  by_cases hk : k < 4
  ·rw [if_pos hk,if_pos hk]
   by_cases hk2 : j * 4 + k < l.length * 4
   ·rw [if_pos hk2,if_pos hk2]
    have:=hs2 (j * 4 + k) (by omega)
    simpa using this
   ·rw [if_neg hk2,if_neg hk2]
  ·rw [if_neg hk,if_neg hk]
set_option maxHeartbeats 8000000 in
set_option maxRecDepth 1000000 in
theorem changing55_at (l : List S41) (A : Option Addr) (c : Nat) (p : S25) (v5 v6 : Value) (B : Nat) (w : World) (h5 : v5.oneCell' = true) (h6 : v6.oneCell' = true)
  (hr : Kd.C k41 w A l.length l) (hl : l.length ≤ 1000000000) (hs : Srt l) (hk0 : 0 ≤ p.f0) (hk1 : p.f0 ≤ 10) (hF : w.heap[B]? = some (.cells #[.func (.func 55) #[] #[]] 76 (0,0)))
  (hchg : ∀ (u : World) (x : S41) (X : Option Addr) (d g o : Nat) (cur : Array Value) (W : World),findV l p.f1 = some x → x.f1 = kindV p.f0 → Below w.heap.size w u → Below u.heap.size u W → u.heap.size ≤ g → W.heap[g]? = some (.cells cur 41 (0,0)) → Ent cur o x X d → Re u x X d →
   Calls Tryz.prog 55 #[.pointer (some ⟨g,o,none⟩),.agg #[.int .i64 p.f0,.string p.f1,.string p.f2,.string p.f3,.int .i64 p.f4,v5,v6]] W (Chg u p x g o cur)) :
  Calls Tryz.prog 100 #[.slice A l.length c,.agg #[.int .i64 p.f0,.string p.f1,.string p.f2,.string p.f3,.int .i64 p.f4,v5,v6],.pointer (some ⟨B,0,none⟩)] w (Ans w (changeL l p) (changeE l p)):=by
 have eg : ∀ args w,(callFunc 55 args).run Tryz.prog w = .ok (.enter 55 args) w:=enters_of Tryz.func55 (by kernel_rfl) rfl
 have HB : Aside0 (Below w.heap.size w (w.alloc (.cells #[.int .i64 p.f0,.string p.f1,.string p.f2,.string p.f3,.int .i64 p.f4,v5,v6] 25))):=⟨below_alloc (Below.refl _ _) _⟩
 have HX : Aside0 ((w.alloc (.cells #[.int .i64 p.f0,.string p.f1,.string p.f2,.string p.f3,.int .i64 p.f4,v5,v6] 25)).heap[w.heap.size]? = some (.cells #[.int .i64 p.f0,.string p.f1,.string p.f2,.string p.f3,.int .i64 p.f4,v5,v6] 25 (0,0))):=⟨blk_new _ _⟩
 have h1:=there_at l A c p.f0 p.f1 (.string p.f2) (.string p.f3) (.int .i64 p.f4) v5 v6 _ rfl rfl rfl h5 h6 (Kd.C_below hr HB.out) hl hs hk0 hk1
 obtain ⟨b0,b1,b2,b3,b4,b5,b6⟩:=cells7 HX.out
 have HR:=Aside0.mk hr
 have HS:=Aside0.mk hs
 have HL:=Aside0.mk hl
 have HC:=Aside0.mk hchg
 have HF:=Aside0.mk hF
 obtain ⟨t,ht⟩ : ∃ t,thereV l p.f1 p.f0 = t:=⟨_,rfl⟩
 have HT:=Aside0.mk ht
 rw [ht] at h1
 clear hr hs hl ht hchg hF hk0 hk1
 by_cases h0 : t = 0
 ·subst h0
  obtain ⟨x,hfx,hkx⟩:=there_zero.mp HT.out
  obtain ⟨hx,hlo⟩:=(has_find HS.out p.f1).2 x hfx
  obtain ⟨j,hj⟩ : ∃ j,lowB l p.f1 = j:=⟨_,rfl⟩
  have hE : changeE l p = if (changeV x p).isSome then 0 else 81:=by
   unfold changeE thingAt
   rw [HT.out,if_pos rfl,hfx,Option.getD_some]
  have hLL : ∀ y,changeV x p = some y → changeL l p = l.set j y:=by
   intro y hy
   rw [change_L hfx hy]
   unfold setL
   rw [hj]
  rw [hj] at hx hlo h1
  rw [hE]
  have FX:=Aside0.mk hfx
  have KX:=Aside0.mk hkx
  have LL:=Aside0.mk hLL
  have hj0 : (0 : Int) ≤ (j : Int):=by omega
  have hj1 : (j : Int) < (l.length : Int):=by omega
  clear hfx hkx hE hj hLL
  obtain ⟨r,hrr⟩ : ∃ r,(changeV x p).isSome = r:=⟨_,rfl⟩
  rw [hrr]
  have RR:=Aside0.mk hrr
  obtain ⟨err,herr⟩ : ∃ err : Int,(if r = true then (0 : Int) else 81) = err:=⟨_,rfl⟩
  rw [herr]
  have ER:=Aside0.mk herr
  clear hrr herr
  go_enter Tryz.func100,Tryz.ntmps100
  go_upto_region 4 with (go_at_call 95; refine h1.mono ?_; rintro e w1 ⟨⟨i,rfl,hi⟩,hb⟩)
  obtain rfl : i = j:=hi trivial
  have hB1:=Aside0.mk (HB.out.trans (hb.mono HB.out.size))
  have hX1:=Aside0.mk (blk_below HX.out hb)
  have hcl:=clone_at w1 l A c w1 (Below.refl _ _) HL.out (rows_rw (Kd.C_below HR.out hB1.out) (Below.refl _ _))
  clear b0 b1 b2 b3 b4 b5 b6 HB HX h1 hb hi
  go_upto_region 5 with (go_at_call 73; refine hcl.mono ?_; rintro e w2 ⟨v,rfl,hrow,hb2,hown⟩)
  obtain ⟨inner,⟨hlen,ho⟩,hrp⟩:=hrow
  rcases ho with ⟨rfl,hn0⟩ | ⟨g,cap,cur,rfl,hg,hh,hnc,hcm,hcs,ht⟩
  ·omega
  ·obtain ⟨X,d,hcs4,rx⟩:=hrp.2 i x (by rw [List.getElem?_eq_getElem hlo,← getD_get hlo,hx])
   have hent : Ent cur (i * 4) x X d:=by
    have key : ∀ k u,[Value.string x.f0,Value.int .i64 x.f1,Value.slice X x.f2.length d,Value.string x.f3][k]? = some u → cur[i * 4 + k]? = some u:=by
     intro k u hu
     rw [← hcs4,List.getElem?_take] at hu
     split at hu
     ·rw [List.getElem?_drop,← ht,List.getElem?_take] at hu
      split at hu
      ·simpa using hu
      ·cases hu
     ·cases hu
    exact ⟨key 0 _ rfl,key 1 _ rfl,key 2 _ rfl,key 3 _ rfl⟩
   have hBu:=hB1.out
   have hcall:=fun W (hb3 : Below w2.heap.size w2 W) => HC.out w1 x X d g (i * 4) cur W FX.out KX.out hB1.out (hb2.trans (hb3.mono hb2.size)) hg (blk_below hh hb3) hent rx
   obtain ⟨d0,d1,d2,d3,d4,d5,d6⟩:=cells7 hX1.out
   have dF:=(blk_cell (blk_below HF.out hB1.out) 0).trans (show _ = some (Value.func (.func 55) #[] #[]) from rfl)
   have DS:=Aside0.mk (And.intro dF (And.intro d0 (And.intro d1 (And.intro d2 (And.intro d3 (And.intro d4 (And.intro d5 d6)))))))
   clear d0 d1 d2 d3 d4 d5 d6 dF
   have hX2:=blk_below hX1.out hb2
   have hF2:=blk_below (blk_below HF.out hB1.out) hb2
   have cF:=(blk_cell hF2 0).trans (show _ = some (Value.func (.func 55) #[] #[]) from rfl)
   obtain ⟨b0,b1,b2,b3,b4,b5,b6⟩:=cells7 hX2
   have HB2:=Aside0.mk hb2
   have HG:=Aside0.mk hg
   have HCM:=Aside0.mk hcm
   have HCS:=Aside0.mk hcs
   have HTT:=Aside0.mk ht
   have HRP:=Aside0.mk hrp
   have HNC:=Aside0.mk hnc
   clear hcl hb2 hg hcm hcs ht hrp hnc hlen hown hX2 hF2 hh hent hcs4 rx hBu
   go_wp2
   go_region_held3 (fun U => U.cell? ⟨B,0,none⟩ = some (.func (.func 55) #[] #[]) ∧ U.cell? ⟨w.heap.size,0,none⟩ = some (.int .i64 p.f0) ∧ U.cell? ⟨w.heap.size,1,none⟩ = some (.string p.f1) ∧ U.cell? ⟨w.heap.size,2,none⟩ = some (.string p.f2) ∧ U.cell? ⟨w.heap.size,3,none⟩ = some (.string p.f3) ∧ U.cell? ⟨w.heap.size,4,none⟩ = some (.int .i64 p.f4) ∧ U.cell? ⟨w.heap.size,5,none⟩ = some v5 ∧ U.cell? ⟨w.heap.size,6,none⟩ = some v6) (first | exact ⟨cF,b0,b1,b2,b3,b4,b5,b6⟩ | exact ⟨pw_cell_below hb4 DS.out.1,pw_cell_below hb4 DS.out.2.1,pw_cell_below hb4 DS.out.2.2.1,pw_cell_below hb4 DS.out.2.2.2.1,pw_cell_below hb4 DS.out.2.2.2.2.1,pw_cell_below hb4 DS.out.2.2.2.2.2.1,pw_cell_below hb4 DS.out.2.2.2.2.2.2.1,pw_cell_below hb4 DS.out.2.2.2.2.2.2.2⟩) ((go_at_fn 55; refine (hcall _ (below_drew (Below.refl _ _))).mono ?_; rintro e w3 ⟨he,hb4,cur',hh4,hsb,hy4⟩; rw [RR.out] at he; subst he))
   all_goals
    have hB4:=Aside0.mk (hB1.out.trans (hb4.mono hB1.out.size))
    have HY:=Aside0.mk hy4
    have HH4:=Aside0.mk hh4
    have HSB:=Aside0.mk hsb
    have HB4:=Aside0.mk hb4
    clear hy4 hh4 hsb hb4 cF b0 b1 b2 b3 b4 b5 b6 hcall
    cases r with
    | false =>
     go_wp2
     go_ret2
     exact ⟨hB4.out,by have he : err = 81:=(by rw [← ER.out]; rfl); rw [he]; rfl⟩
    | true =>
     go_wp2
     go_ret2
     refine ⟨hB4.out,?_⟩
     rw [if_pos (show err = 0 by rw [← ER.out]; rfl)]
     obtain ⟨y,hy⟩:=Option.isSome_iff_exists.1 RR.out
     obtain ⟨Y,d',he,ry⟩:=HY.out y hy
     rw [LL.out y hy]
     have hlen : (l.set i y).length = l.length:=List.length_set
     have hrp2:=reps_set HRP.out HTT.out (by rw [HCS.out]; have:=HNC.out; omega) HB4.out HSB.out hlo he ry
     have hown2 : OwnRow (Rw w3) 41 4 w3 w1.heap.size (.slice (some ⟨g,0,none⟩) l.length cap) (l.set i y) :=
      ⟨_,⟨hrp2.1,Or.inr ⟨g,cap,cur',by rw [hlen],HG.out,HH4.out,by rw [hlen]; exact HNC.out,HCM.out,by rw [HSB.out.1,HCS.out],by rw [hlen]⟩⟩,hrp2⟩
     obtain ⟨A',c',he',hc',hrr⟩:=OwnRow.reads hown2
     injection he' with e1 e2 e3
     subst e1
     subst e3
     refine ⟨_,cap,by rw [hlen]; rfl,hc',?_⟩
     refine ReadsRow.imp_ hrr (Below.refl _ _) ?_
     rintro pp cl ⟨X',x',rfl,rx'⟩
     exact k41_mk w3 pp rx'.l rx'.g
 ·have hE : changeE l p = t:=by unfold changeE; rw [HT.out,if_neg h0]
  rw [hE]
  have hne : (t == 0) = false:=by simp [h0]
  have hne2 : (t != 0) = true:=by simp [h0]
  go_enter Tryz.func100,Tryz.ntmps100
  go_wp2_with (go_at_call 95; refine h1.mono ?_; rintro e w1 ⟨⟨i,rfl,hi⟩,hb⟩)
  go_ret2
  exact ⟨HB.out.trans (hb.mono HB.out.size),by rw [if_neg h0]; rfl⟩
set_option maxHeartbeats 8000000 in
set_option maxRecDepth 1000000 in
theorem changing56_at (l : List S41) (A : Option Addr) (c : Nat) (p : S25) (v5 v6 : Value) (B : Nat) (w : World) (h5 : v5.oneCell' = true) (h6 : v6.oneCell' = true)
  (hr : Kd.C k41 w A l.length l) (hl : l.length ≤ 1000000000) (hs : Srt l) (hk0 : 0 ≤ p.f0) (hk1 : p.f0 ≤ 10) (hF : w.heap[B]? = some (.cells #[.func (.func 56) #[] #[]] 76 (0,0)))
  (hchg : ∀ (u : World) (x : S41) (X : Option Addr) (d g o : Nat) (cur : Array Value) (W : World),findV l p.f1 = some x → x.f1 = kindV p.f0 → Below w.heap.size w u → Below u.heap.size u W → u.heap.size ≤ g → W.heap[g]? = some (.cells cur 41 (0,0)) → Ent cur o x X d → Re u x X d →
   Calls Tryz.prog 56 #[.pointer (some ⟨g,o,none⟩),.agg #[.int .i64 p.f0,.string p.f1,.string p.f2,.string p.f3,.int .i64 p.f4,v5,v6]] W (Chg u p x g o cur)) :
  Calls Tryz.prog 100 #[.slice A l.length c,.agg #[.int .i64 p.f0,.string p.f1,.string p.f2,.string p.f3,.int .i64 p.f4,v5,v6],.pointer (some ⟨B,0,none⟩)] w (Ans w (changeL l p) (changeE l p)):=by
 have eg : ∀ args w,(callFunc 56 args).run Tryz.prog w = .ok (.enter 56 args) w:=enters_of Tryz.func56 (by kernel_rfl) rfl
 have HB : Aside0 (Below w.heap.size w (w.alloc (.cells #[.int .i64 p.f0,.string p.f1,.string p.f2,.string p.f3,.int .i64 p.f4,v5,v6] 25))):=⟨below_alloc (Below.refl _ _) _⟩
 have HX : Aside0 ((w.alloc (.cells #[.int .i64 p.f0,.string p.f1,.string p.f2,.string p.f3,.int .i64 p.f4,v5,v6] 25)).heap[w.heap.size]? = some (.cells #[.int .i64 p.f0,.string p.f1,.string p.f2,.string p.f3,.int .i64 p.f4,v5,v6] 25 (0,0))):=⟨blk_new _ _⟩
 have h1:=there_at l A c p.f0 p.f1 (.string p.f2) (.string p.f3) (.int .i64 p.f4) v5 v6 _ rfl rfl rfl h5 h6 (Kd.C_below hr HB.out) hl hs hk0 hk1
 obtain ⟨b0,b1,b2,b3,b4,b5,b6⟩:=cells7 HX.out
 have HR:=Aside0.mk hr
 have HS:=Aside0.mk hs
 have HL:=Aside0.mk hl
 have HC:=Aside0.mk hchg
 have HF:=Aside0.mk hF
 obtain ⟨t,ht⟩ : ∃ t,thereV l p.f1 p.f0 = t:=⟨_,rfl⟩
 have HT:=Aside0.mk ht
 rw [ht] at h1
 clear hr hs hl ht hchg hF hk0 hk1
 by_cases h0 : t = 0
 ·subst h0
  obtain ⟨x,hfx,hkx⟩:=there_zero.mp HT.out
  obtain ⟨hx,hlo⟩:=(has_find HS.out p.f1).2 x hfx
  obtain ⟨j,hj⟩ : ∃ j,lowB l p.f1 = j:=⟨_,rfl⟩
  have hE : changeE l p = if (changeV x p).isSome then 0 else 81:=by
   unfold changeE thingAt
   rw [HT.out,if_pos rfl,hfx,Option.getD_some]
  have hLL : ∀ y,changeV x p = some y → changeL l p = l.set j y:=by
   intro y hy
   rw [change_L hfx hy]
   unfold setL
   rw [hj]
  rw [hj] at hx hlo h1
  rw [hE]
  have FX:=Aside0.mk hfx
  have KX:=Aside0.mk hkx
  have LL:=Aside0.mk hLL
  have hj0 : (0 : Int) ≤ (j : Int):=by omega
  have hj1 : (j : Int) < (l.length : Int):=by omega
  clear hfx hkx hE hj hLL
  obtain ⟨r,hrr⟩ : ∃ r,(changeV x p).isSome = r:=⟨_,rfl⟩
  rw [hrr]
  have RR:=Aside0.mk hrr
  obtain ⟨err,herr⟩ : ∃ err : Int,(if r = true then (0 : Int) else 81) = err:=⟨_,rfl⟩
  rw [herr]
  have ER:=Aside0.mk herr
  clear hrr herr
  go_enter Tryz.func100,Tryz.ntmps100
  go_upto_region 4 with (go_at_call 95; refine h1.mono ?_; rintro e w1 ⟨⟨i,rfl,hi⟩,hb⟩)
  obtain rfl : i = j:=hi trivial
  have hB1:=Aside0.mk (HB.out.trans (hb.mono HB.out.size))
  have hX1:=Aside0.mk (blk_below HX.out hb)
  have hcl:=clone_at w1 l A c w1 (Below.refl _ _) HL.out (rows_rw (Kd.C_below HR.out hB1.out) (Below.refl _ _))
  clear b0 b1 b2 b3 b4 b5 b6 HB HX h1 hb hi
  go_upto_region 5 with (go_at_call 73; refine hcl.mono ?_; rintro e w2 ⟨v,rfl,hrow,hb2,hown⟩)
  obtain ⟨inner,⟨hlen,ho⟩,hrp⟩:=hrow
  rcases ho with ⟨rfl,hn0⟩ | ⟨g,cap,cur,rfl,hg,hh,hnc,hcm,hcs,ht⟩
  ·omega
  ·obtain ⟨X,d,hcs4,rx⟩:=hrp.2 i x (by rw [List.getElem?_eq_getElem hlo,← getD_get hlo,hx])
   have hent : Ent cur (i * 4) x X d:=by
    have key : ∀ k u,[Value.string x.f0,Value.int .i64 x.f1,Value.slice X x.f2.length d,Value.string x.f3][k]? = some u → cur[i * 4 + k]? = some u:=by
     intro k u hu
     rw [← hcs4,List.getElem?_take] at hu
     split at hu
     ·rw [List.getElem?_drop,← ht,List.getElem?_take] at hu
      split at hu
      ·simpa using hu
      ·cases hu
     ·cases hu
    exact ⟨key 0 _ rfl,key 1 _ rfl,key 2 _ rfl,key 3 _ rfl⟩
   have hBu:=hB1.out
   have hcall:=fun W (hb3 : Below w2.heap.size w2 W) => HC.out w1 x X d g (i * 4) cur W FX.out KX.out hB1.out (hb2.trans (hb3.mono hb2.size)) hg (blk_below hh hb3) hent rx
   obtain ⟨d0,d1,d2,d3,d4,d5,d6⟩:=cells7 hX1.out
   have dF:=(blk_cell (blk_below HF.out hB1.out) 0).trans (show _ = some (Value.func (.func 56) #[] #[]) from rfl)
   have DS:=Aside0.mk (And.intro dF (And.intro d0 (And.intro d1 (And.intro d2 (And.intro d3 (And.intro d4 (And.intro d5 d6)))))))
   clear d0 d1 d2 d3 d4 d5 d6 dF
   have hX2:=blk_below hX1.out hb2
   have hF2:=blk_below (blk_below HF.out hB1.out) hb2
   have cF:=(blk_cell hF2 0).trans (show _ = some (Value.func (.func 56) #[] #[]) from rfl)
   obtain ⟨b0,b1,b2,b3,b4,b5,b6⟩:=cells7 hX2
   have HB2:=Aside0.mk hb2
   have HG:=Aside0.mk hg
   have HCM:=Aside0.mk hcm
   have HCS:=Aside0.mk hcs
   have HTT:=Aside0.mk ht
   have HRP:=Aside0.mk hrp
   have HNC:=Aside0.mk hnc
   clear hcl hb2 hg hcm hcs ht hrp hnc hlen hown hX2 hF2 hh hent hcs4 rx hBu
   go_wp2
   go_region_held3 (fun U => U.cell? ⟨B,0,none⟩ = some (.func (.func 56) #[] #[]) ∧ U.cell? ⟨w.heap.size,0,none⟩ = some (.int .i64 p.f0) ∧ U.cell? ⟨w.heap.size,1,none⟩ = some (.string p.f1) ∧ U.cell? ⟨w.heap.size,2,none⟩ = some (.string p.f2) ∧ U.cell? ⟨w.heap.size,3,none⟩ = some (.string p.f3) ∧ U.cell? ⟨w.heap.size,4,none⟩ = some (.int .i64 p.f4) ∧ U.cell? ⟨w.heap.size,5,none⟩ = some v5 ∧ U.cell? ⟨w.heap.size,6,none⟩ = some v6) (first | exact ⟨cF,b0,b1,b2,b3,b4,b5,b6⟩ | exact ⟨pw_cell_below hb4 DS.out.1,pw_cell_below hb4 DS.out.2.1,pw_cell_below hb4 DS.out.2.2.1,pw_cell_below hb4 DS.out.2.2.2.1,pw_cell_below hb4 DS.out.2.2.2.2.1,pw_cell_below hb4 DS.out.2.2.2.2.2.1,pw_cell_below hb4 DS.out.2.2.2.2.2.2.1,pw_cell_below hb4 DS.out.2.2.2.2.2.2.2⟩) ((go_at_fn 56; refine (hcall _ (below_drew (Below.refl _ _))).mono ?_; rintro e w3 ⟨he,hb4,cur',hh4,hsb,hy4⟩; rw [RR.out] at he; subst he))
   all_goals
    have hB4:=Aside0.mk (hB1.out.trans (hb4.mono hB1.out.size))
    have HY:=Aside0.mk hy4
    have HH4:=Aside0.mk hh4
    have HSB:=Aside0.mk hsb
    have HB4:=Aside0.mk hb4
    clear hy4 hh4 hsb hb4 cF b0 b1 b2 b3 b4 b5 b6 hcall
    cases r with
    | false =>
     go_wp2
     go_ret2
     exact ⟨hB4.out,by have he : err = 81:=(by rw [← ER.out]; rfl); rw [he]; rfl⟩
    | true =>
     go_wp2
     go_ret2
     refine ⟨hB4.out,?_⟩
     rw [if_pos (show err = 0 by rw [← ER.out]; rfl)]
     obtain ⟨y,hy⟩:=Option.isSome_iff_exists.1 RR.out
     obtain ⟨Y,d',he,ry⟩:=HY.out y hy
     rw [LL.out y hy]
     have hlen : (l.set i y).length = l.length:=List.length_set
     have hrp2:=reps_set HRP.out HTT.out (by rw [HCS.out]; have:=HNC.out; omega) HB4.out HSB.out hlo he ry
     have hown2 : OwnRow (Rw w3) 41 4 w3 w1.heap.size (.slice (some ⟨g,0,none⟩) l.length cap) (l.set i y) :=
      ⟨_,⟨hrp2.1,Or.inr ⟨g,cap,cur',by rw [hlen],HG.out,HH4.out,by rw [hlen]; exact HNC.out,HCM.out,by rw [HSB.out.1,HCS.out],by rw [hlen]⟩⟩,hrp2⟩
     obtain ⟨A',c',he',hc',hrr⟩:=OwnRow.reads hown2
     injection he' with e1 e2 e3
     subst e1
     subst e3
     refine ⟨_,cap,by rw [hlen]; rfl,hc',?_⟩
     refine ReadsRow.imp_ hrr (Below.refl _ _) ?_
     rintro pp cl ⟨X',x',rfl,rx'⟩
     exact k41_mk w3 pp rx'.l rx'.g
 ·have hE : changeE l p = t:=by unfold changeE; rw [HT.out,if_neg h0]
  rw [hE]
  have hne : (t == 0) = false:=by simp [h0]
  have hne2 : (t != 0) = true:=by simp [h0]
  go_enter Tryz.func100,Tryz.ntmps100
  go_wp2_with (go_at_call 95; refine h1.mono ?_; rintro e w1 ⟨⟨i,rfl,hi⟩,hb⟩)
  go_ret2
  exact ⟨HB.out.trans (hb.mono HB.out.size),by rw [if_neg h0]; rfl⟩
set_option maxHeartbeats 8000000 in
set_option maxRecDepth 1000000 in
theorem changing57_at (l : List S41) (A : Option Addr) (c : Nat) (p : S25) (v5 v6 : Value) (B : Nat) (w : World) (h5 : v5.oneCell' = true) (h6 : v6.oneCell' = true)
  (hr : Kd.C k41 w A l.length l) (hl : l.length ≤ 1000000000) (hs : Srt l) (hk0 : 0 ≤ p.f0) (hk1 : p.f0 ≤ 10) (hF : w.heap[B]? = some (.cells #[.func (.func 57) #[] #[]] 76 (0,0)))
  (hchg : ∀ (u : World) (x : S41) (X : Option Addr) (d g o : Nat) (cur : Array Value) (W : World),findV l p.f1 = some x → x.f1 = kindV p.f0 → Below w.heap.size w u → Below u.heap.size u W → u.heap.size ≤ g → W.heap[g]? = some (.cells cur 41 (0,0)) → Ent cur o x X d → Re u x X d →
   Calls Tryz.prog 57 #[.pointer (some ⟨g,o,none⟩),.agg #[.int .i64 p.f0,.string p.f1,.string p.f2,.string p.f3,.int .i64 p.f4,v5,v6]] W (Chg u p x g o cur)) :
  Calls Tryz.prog 100 #[.slice A l.length c,.agg #[.int .i64 p.f0,.string p.f1,.string p.f2,.string p.f3,.int .i64 p.f4,v5,v6],.pointer (some ⟨B,0,none⟩)] w (Ans w (changeL l p) (changeE l p)):=by
 have eg : ∀ args w,(callFunc 57 args).run Tryz.prog w = .ok (.enter 57 args) w:=enters_of Tryz.func57 (by kernel_rfl) rfl
 have HB : Aside0 (Below w.heap.size w (w.alloc (.cells #[.int .i64 p.f0,.string p.f1,.string p.f2,.string p.f3,.int .i64 p.f4,v5,v6] 25))):=⟨below_alloc (Below.refl _ _) _⟩
 have HX : Aside0 ((w.alloc (.cells #[.int .i64 p.f0,.string p.f1,.string p.f2,.string p.f3,.int .i64 p.f4,v5,v6] 25)).heap[w.heap.size]? = some (.cells #[.int .i64 p.f0,.string p.f1,.string p.f2,.string p.f3,.int .i64 p.f4,v5,v6] 25 (0,0))):=⟨blk_new _ _⟩
 have h1:=there_at l A c p.f0 p.f1 (.string p.f2) (.string p.f3) (.int .i64 p.f4) v5 v6 _ rfl rfl rfl h5 h6 (Kd.C_below hr HB.out) hl hs hk0 hk1
 obtain ⟨b0,b1,b2,b3,b4,b5,b6⟩:=cells7 HX.out
 have HR:=Aside0.mk hr
 have HS:=Aside0.mk hs
 have HL:=Aside0.mk hl
 have HC:=Aside0.mk hchg
 have HF:=Aside0.mk hF
 obtain ⟨t,ht⟩ : ∃ t,thereV l p.f1 p.f0 = t:=⟨_,rfl⟩
 have HT:=Aside0.mk ht
 rw [ht] at h1
 clear hr hs hl ht hchg hF hk0 hk1
 by_cases h0 : t = 0
 ·subst h0
  obtain ⟨x,hfx,hkx⟩:=there_zero.mp HT.out
  obtain ⟨hx,hlo⟩:=(has_find HS.out p.f1).2 x hfx
  obtain ⟨j,hj⟩ : ∃ j,lowB l p.f1 = j:=⟨_,rfl⟩
  have hE : changeE l p = if (changeV x p).isSome then 0 else 81:=by
   unfold changeE thingAt
   rw [HT.out,if_pos rfl,hfx,Option.getD_some]
  have hLL : ∀ y,changeV x p = some y → changeL l p = l.set j y:=by
   intro y hy
   rw [change_L hfx hy]
   unfold setL
   rw [hj]
  rw [hj] at hx hlo h1
  rw [hE]
  have FX:=Aside0.mk hfx
  have KX:=Aside0.mk hkx
  have LL:=Aside0.mk hLL
  have hj0 : (0 : Int) ≤ (j : Int):=by omega
  have hj1 : (j : Int) < (l.length : Int):=by omega
  clear hfx hkx hE hj hLL
  obtain ⟨r,hrr⟩ : ∃ r,(changeV x p).isSome = r:=⟨_,rfl⟩
  rw [hrr]
  have RR:=Aside0.mk hrr
  obtain ⟨err,herr⟩ : ∃ err : Int,(if r = true then (0 : Int) else 81) = err:=⟨_,rfl⟩
  rw [herr]
  have ER:=Aside0.mk herr
  clear hrr herr
  go_enter Tryz.func100,Tryz.ntmps100
  go_upto_region 4 with (go_at_call 95; refine h1.mono ?_; rintro e w1 ⟨⟨i,rfl,hi⟩,hb⟩)
  obtain rfl : i = j:=hi trivial
  have hB1:=Aside0.mk (HB.out.trans (hb.mono HB.out.size))
  have hX1:=Aside0.mk (blk_below HX.out hb)
  have hcl:=clone_at w1 l A c w1 (Below.refl _ _) HL.out (rows_rw (Kd.C_below HR.out hB1.out) (Below.refl _ _))
  clear b0 b1 b2 b3 b4 b5 b6 HB HX h1 hb hi
  go_upto_region 5 with (go_at_call 73; refine hcl.mono ?_; rintro e w2 ⟨v,rfl,hrow,hb2,hown⟩)
  obtain ⟨inner,⟨hlen,ho⟩,hrp⟩:=hrow
  rcases ho with ⟨rfl,hn0⟩ | ⟨g,cap,cur,rfl,hg,hh,hnc,hcm,hcs,ht⟩
  ·omega
  ·obtain ⟨X,d,hcs4,rx⟩:=hrp.2 i x (by rw [List.getElem?_eq_getElem hlo,← getD_get hlo,hx])
   have hent : Ent cur (i * 4) x X d:=by
    have key : ∀ k u,[Value.string x.f0,Value.int .i64 x.f1,Value.slice X x.f2.length d,Value.string x.f3][k]? = some u → cur[i * 4 + k]? = some u:=by
     intro k u hu
     rw [← hcs4,List.getElem?_take] at hu
     split at hu
     ·rw [List.getElem?_drop,← ht,List.getElem?_take] at hu
      split at hu
      ·simpa using hu
      ·cases hu
     ·cases hu
    exact ⟨key 0 _ rfl,key 1 _ rfl,key 2 _ rfl,key 3 _ rfl⟩
   have hBu:=hB1.out
   have hcall:=fun W (hb3 : Below w2.heap.size w2 W) => HC.out w1 x X d g (i * 4) cur W FX.out KX.out hB1.out (hb2.trans (hb3.mono hb2.size)) hg (blk_below hh hb3) hent rx
   obtain ⟨d0,d1,d2,d3,d4,d5,d6⟩:=cells7 hX1.out
   have dF:=(blk_cell (blk_below HF.out hB1.out) 0).trans (show _ = some (Value.func (.func 57) #[] #[]) from rfl)
   have DS:=Aside0.mk (And.intro dF (And.intro d0 (And.intro d1 (And.intro d2 (And.intro d3 (And.intro d4 (And.intro d5 d6)))))))
   clear d0 d1 d2 d3 d4 d5 d6 dF
   have hX2:=blk_below hX1.out hb2
   have hF2:=blk_below (blk_below HF.out hB1.out) hb2
   have cF:=(blk_cell hF2 0).trans (show _ = some (Value.func (.func 57) #[] #[]) from rfl)
   obtain ⟨b0,b1,b2,b3,b4,b5,b6⟩:=cells7 hX2
   have HB2:=Aside0.mk hb2
   have HG:=Aside0.mk hg
   have HCM:=Aside0.mk hcm
   have HCS:=Aside0.mk hcs
   have HTT:=Aside0.mk ht
   have HRP:=Aside0.mk hrp
   have HNC:=Aside0.mk hnc
   clear hcl hb2 hg hcm hcs ht hrp hnc hlen hown hX2 hF2 hh hent hcs4 rx hBu
   go_wp2
   go_region_held3 (fun U => U.cell? ⟨B,0,none⟩ = some (.func (.func 57) #[] #[]) ∧ U.cell? ⟨w.heap.size,0,none⟩ = some (.int .i64 p.f0) ∧ U.cell? ⟨w.heap.size,1,none⟩ = some (.string p.f1) ∧ U.cell? ⟨w.heap.size,2,none⟩ = some (.string p.f2) ∧ U.cell? ⟨w.heap.size,3,none⟩ = some (.string p.f3) ∧ U.cell? ⟨w.heap.size,4,none⟩ = some (.int .i64 p.f4) ∧ U.cell? ⟨w.heap.size,5,none⟩ = some v5 ∧ U.cell? ⟨w.heap.size,6,none⟩ = some v6) (first | exact ⟨cF,b0,b1,b2,b3,b4,b5,b6⟩ | exact ⟨pw_cell_below hb4 DS.out.1,pw_cell_below hb4 DS.out.2.1,pw_cell_below hb4 DS.out.2.2.1,pw_cell_below hb4 DS.out.2.2.2.1,pw_cell_below hb4 DS.out.2.2.2.2.1,pw_cell_below hb4 DS.out.2.2.2.2.2.1,pw_cell_below hb4 DS.out.2.2.2.2.2.2.1,pw_cell_below hb4 DS.out.2.2.2.2.2.2.2⟩) ((go_at_fn 57; refine (hcall _ (below_drew (Below.refl _ _))).mono ?_; rintro e w3 ⟨he,hb4,cur',hh4,hsb,hy4⟩; rw [RR.out] at he; subst he))
   all_goals
    have hB4:=Aside0.mk (hB1.out.trans (hb4.mono hB1.out.size))
    have HY:=Aside0.mk hy4
    have HH4:=Aside0.mk hh4
    have HSB:=Aside0.mk hsb
    have HB4:=Aside0.mk hb4
    clear hy4 hh4 hsb hb4 cF b0 b1 b2 b3 b4 b5 b6 hcall
    cases r with
    | false =>
     go_wp2
     go_ret2
     exact ⟨hB4.out,by have he : err = 81:=(by rw [← ER.out]; rfl); rw [he]; rfl⟩
    | true =>
     go_wp2
     go_ret2
     refine ⟨hB4.out,?_⟩
     rw [if_pos (show err = 0 by rw [← ER.out]; rfl)]
     obtain ⟨y,hy⟩:=Option.isSome_iff_exists.1 RR.out
     obtain ⟨Y,d',he,ry⟩:=HY.out y hy
     rw [LL.out y hy]
     have hlen : (l.set i y).length = l.length:=List.length_set
     have hrp2:=reps_set HRP.out HTT.out (by rw [HCS.out]; have:=HNC.out; omega) HB4.out HSB.out hlo he ry
     have hown2 : OwnRow (Rw w3) 41 4 w3 w1.heap.size (.slice (some ⟨g,0,none⟩) l.length cap) (l.set i y) :=
      ⟨_,⟨hrp2.1,Or.inr ⟨g,cap,cur',by rw [hlen],HG.out,HH4.out,by rw [hlen]; exact HNC.out,HCM.out,by rw [HSB.out.1,HCS.out],by rw [hlen]⟩⟩,hrp2⟩
     obtain ⟨A',c',he',hc',hrr⟩:=OwnRow.reads hown2
     injection he' with e1 e2 e3
     subst e1
     subst e3
     refine ⟨_,cap,by rw [hlen]; rfl,hc',?_⟩
     refine ReadsRow.imp_ hrr (Below.refl _ _) ?_
     rintro pp cl ⟨X',x',rfl,rx'⟩
     exact k41_mk w3 pp rx'.l rx'.g
 ·have hE : changeE l p = t:=by unfold changeE; rw [HT.out,if_neg h0]
  rw [hE]
  have hne : (t == 0) = false:=by simp [h0]
  have hne2 : (t != 0) = true:=by simp [h0]
  go_enter Tryz.func100,Tryz.ntmps100
  go_wp2_with (go_at_call 95; refine h1.mono ?_; rintro e w1 ⟨⟨i,rfl,hi⟩,hb⟩)
  go_ret2
  exact ⟨HB.out.trans (hb.mono HB.out.size),by rw [if_neg h0]; rfl⟩
end Go.Proofs.YthhohbidjhcjeaaGreatDoor.H
namespace Go.Proofs.YthhohbidjhcjeaaGreatDoor.H
open Go.RowKit Go.Shelf Go.Proofs.YthhohbidjhcjeaaGreatDoorW.PrintWords Go.Proofs.YthhohbidjhcjeaaGreatDoorW.PrintLast Go.Proofs.YthhohbidjhcjeaaGreatDoorW.PrintMore
open Go.Proofs.YthhohbidjhcjeaaGreatDoor.Q Go.Proofs.YthhohbidjhcjeaaGreatDoor.Pl
set_option linter.unusedVariables false
set_option linter.unusedSimpArgs false
theorem row_own_lt {w W : World} {v : Value} {l : List S41} (h : Row w W v l) : ∀ g,v.ownBlock = some g → g < W.heap.size:=by
 intro g hg
 obtain ⟨inner,⟨_,ho⟩,_⟩:=h
 rcases ho with ⟨rfl,_⟩ | ⟨g',cap,cur,rfl,_,hh,_⟩
 ·cases hg
 ·have : g' = g:=Option.some.inj hg
  rw [← this]; exact blk_lt hh
theorem newE_rw (w : World) (p : S25) (kk : Int) (h : kindV p.f0 = kk) : Rw w (newE p) [.string p.f1,.int .i64 kk,.slice none 0 0,.string ⟨#[]⟩] :=
 ⟨none,0,by rw [← h]; rfl,Nat.le_refl _,⟨rfl,(show (0 : Nat) ≤ 9223372036854775807 by decide),fun h => absurd h (show ¬ (0 : Nat) < 0 by decide)⟩⟩
set_option maxHeartbeats 8000000 in
set_option maxRecDepth 1000000 in
theorem add_at (l : List S41) (A : Option Addr) (c : Nat) (p : S25) (v5 v6 : Value) (w : World) (h5 : v5.oneCell' = true) (h6 : v6.oneCell' = true)
  (hr : Kd.C k41 w A l.length l) (hl : l.length ≤ 1000000000) (hs : Srt l) (hk0 : 0 ≤ p.f0) (hk1 : p.f0 ≤ 10) (hp : p.f1.size ≤ 1000000000000) :
  Calls Tryz.prog 52 #[.slice A l.length c,.agg #[.int .i64 p.f0,.string p.f1,.string p.f2,.string p.f3,.int .i64 p.f4,v5,v6]] w (Ans w (insL l (newE p)) (addE l p)):=by
 have HB : Aside0 (Below w.heap.size w (w.alloc (.cells #[.int .i64 p.f0,.string p.f1,.string p.f2,.string p.f3,.int .i64 p.f4,v5,v6] 25))):=⟨below_alloc (Below.refl _ _) _⟩
 have HX : Aside0 ((w.alloc (.cells #[.int .i64 p.f0,.string p.f1,.string p.f2,.string p.f3,.int .i64 p.f4,v5,v6] 25)).heap[w.heap.size]? = some (.cells #[.int .i64 p.f0,.string p.f1,.string p.f2,.string p.f3,.int .i64 p.f4,v5,v6] 25 (0,0))):=⟨blk_new _ _⟩
 have h1:=room_at l A c p.f1 _ (Kd.C_below hr HB.out) hl hs hp
 obtain ⟨b0,b1,b2,b3,b4,b5,b6⟩:=cells7 HX.out
 have HR:=Aside0.mk hr
 have HS:=Aside0.mk hs
 have HL:=Aside0.mk hl
 obtain ⟨t,ht⟩ : ∃ t,roomV l p.f1 = t:=⟨_,rfl⟩
 have HT:=Aside0.mk ht
 have hE : addE l p = if t = 0 then (if l.length = 1024 then 2 else 0) else t:=by unfold addE; rw [ht]
 rw [ht] at h1
 rw [hE]
 have hki:=kind_row p.f0 hk0 hk1
 have HKI:=Aside0.mk hki
 obtain ⟨err,herr⟩ : ∃ err : Int,(if t = 0 then (if l.length = 1024 then 2 else 0) else t) = err:=⟨_,rfl⟩
 rw [herr]
 have ER:=Aside0.mk herr
 clear hr hs hl ht hE herr hk0 hk1 hki
 by_cases h0 : t = 0
 ·subst h0
  by_cases hm : l.length = 1024
  ·have hmb : ((l.length : Int) == 1024) = true:=by rw [beq_iff_eq]; omega
   have HM:=Aside0.mk hm
   clear hm
   go_enter Tryz.func52,Tryz.ntmps52
   go_wp2_with (go_at_call 91; refine h1.mono ?_; rintro e w1 ⟨rfl,hb⟩)
   go_ret2
   exact ⟨HB.out.trans (hb.mono HB.out.size),by have he : err = 2:=(by rw [← ER.out]; simp [HM.out]); rw [he]; rfl⟩
  ·have hmb : ((l.length : Int) == 1024) = false:=by rw [beq_eq_false_iff_ne]; omega
   have HM:=Aside0.mk hm
   clear hm
   go_enter Tryz.func52,Tryz.ntmps52
   go_upto_region 6 with (go_at_call 91; refine h1.mono ?_; rintro e w1 ⟨rfl,hb⟩)
   have hB1:=Aside0.mk (HB.out.trans (hb.mono HB.out.size))
   have hX1:=Aside0.mk (blk_below HX.out hb)
   have h2:=where_at l A c p.f1 w1 (Kd.C_below HR.out hB1.out) HL.out HS.out
   obtain ⟨c0,c1,c2,c3,c4,c5,c6⟩:=cells7 hX1.out
   clear b0 b1 b2 b3 b4 b5 b6 HB HX h1 hb
   go_upto_region 7 with (go_at_call 92; refine h2.mono ?_; rintro e w2 ⟨rfl,hb⟩)
   have hB2:=Aside0.mk (hB1.out.trans (hb.mono hB1.out.size))
   have hX2:=Aside0.mk (blk_below hX1.out hb)
   obtain ⟨d0,d1,d2,d3,d4,d5,d6⟩:=cells7 hX2.out
   clear c0 c1 c2 c3 c4 c5 c6 hX1 h2 hb
   have hcl:=clone_at w2 l A c w2.drew (below_drew (Below.refl _ _)) HL.out (rows_rw (Kd.C_below HR.out hB2.out) (below_drew (Below.refl _ _)))
   have hki:=HKI.out
   have hC:=kinds_calls
   obtain ⟨j,hj⟩ : ∃ j,lowB l p.f1 = j:=⟨_,rfl⟩
   have hjl : j ≤ l.length:=by rw [← hj]; exact lowB_le _ _
   have HJ:=Aside0.mk hj
   rw [hj]
   obtain ⟨kk,hkk⟩ : ∃ kk,kindV p.f0 = kk:=⟨_,rfl⟩
   rw [hkk] at hki
   have KK:=Aside0.mk hkk
   clear hj hkk
   go_region_held3 (fun U => U.cell? ⟨w.heap.size,0,none⟩ = some (.int .i64 p.f0) ∧ U.cell? ⟨w.heap.size,1,none⟩ = some (.string p.f1)) (first | exact ⟨d0,d1⟩ | exact ⟨pw_cell_below hb3 d0,pw_cell_below hb3 d1⟩ | exact ⟨pw_cell_below hb4 (pw_cell_below hb3 d0),pw_cell_below hb4 (pw_cell_below hb3 d1)⟩ | exact ⟨Lib.cell?_alloc_some _ (pw_cell_below hb4 (pw_cell_below hb3 d0)),Lib.cell?_alloc_some _ (pw_cell_below hb4 (pw_cell_below hb3 d1))⟩ | exact ⟨pw_cell_below hb5 d0,pw_cell_below hb5 d1⟩) (first
    | ((go_at_call 73; refine hcl.mono ?_; rintro e w3 ⟨v,rfl,hrow,hb3,hown⟩))
    | ((go_at_call 94; refine (hC _).mono ?_; rintro e w4 ⟨rfl,hb4⟩))
    | ((go_at_call 93; refine (insert_at w2 l v j (newE p) _ w4.heap.size _ ((hrow.below hb4).below (below_alloc (Below.refl _ _) _)) ((hb3.trans (hb4.mono hb3.size)).trans (below_alloc (Below.refl w4.heap.size w4) _ |>.mono (Nat.le_trans hb3.size hb4.size))) hjl HL.out (blk_new _ _) (newE_rw w2 p kk KK.out) (fun h => by have h1:=row_own_lt hrow _ h; have h2:=hb4.size; omega)).mono ?_; rintro e w5 ⟨A5,c5,rfl,hc5,hrr,hb5⟩)))
   all_goals
    have hB5:=Aside0.mk (hB2.out.trans (hb5.mono hB2.out.size))
    have HR5:=Aside0.mk hrr
    have HB5:=Aside0.mk hb5
    clear hrr hrow hb3 hb4 hb5 hown hcl hki hC d0 d1 d2 d3 d4 d5 d6
    go_wp2
    go_ret2
    refine ⟨hB5.out,?_⟩
    rw [if_pos (show err = 0 by rw [← ER.out]; simp [HM.out])]
    have hins : insL l (newE p) = l.take j ++ newE p :: l.drop j:=by
     unfold insL
     rw [show lowB l (newE p).f0 = j from HJ.out]
    refine ⟨A5,c5,by rw [ins_len]; rfl,by rw [ins_len]; exact hc5,?_⟩
    rw [ins_len,hins]
    refine ReadsRow.imp_ HR5.out (Below.refl _ _) ?_
    rintro pp cl ⟨X',x',rfl,rx'⟩
    exact k41_mk _ pp rx'.l (Kd.C_below rx'.g HB5.out)
 ·have hne : (t == 0) = false:=by simp [h0]
  have hne2 : (t != 0) = true:=by simp [h0]
  have h00:=Aside0.mk h0
  go_enter Tryz.func52,Tryz.ntmps52
  go_wp2_with (go_at_call 91; refine h1.mono ?_; rintro e w1 ⟨rfl,hb⟩)
  go_ret2
  exact ⟨HB.out.trans (hb.mono HB.out.size),by have he : err = t:=(by rw [← ER.out]; rw [if_neg h00.out]); rw [he,if_neg h00.out]; rfl⟩
end Go.Proofs.YthhohbidjhcjeaaGreatDoor.H
namespace Go.Proofs
open Go.Shelf
def Tryz.sortE_ren : Go.Shelf.Ren:=⟨fun | 6 => 106 | 15 => 142 | 14 => 141 | 28 => 171 | 29 => 172 | 20 => 163 | 21 => 164 | 22 => 165 | 23 => 166 | 24 => 167 | 25 => 168 | 26 => 169 | 27 => 170 | 46 => 184 | 47 => 185 | 48 => 186 | 49 => 187 | 50 => 188 | 57 => 200 | n => n,fun | 22 => 22 | 24 => 41 | 25 => 122 | 3 => 3 | 39 => 158 | 0 => 0 | 53 => 185 | 55 => 187 | 4 => 4 | 46 => 179 | 45 => 178 | 50 => 110 | 5 => 5 | 9 => 9 | 66 => 201 | 70 => 205 | 76 => 210 | 77 => 211 | n => n,fun | n => n⟩
theorem Tryz.sortE : Go.Proofs.SlLaysF0.n6 Tryz.prog Tryz.sortE_ren:={
 mixed:=by kernel_rfl
 f6:=⟨Tryz.f106.name,by decide,Tryz.func106.trans (congrArg some (by kernel_rfl))⟩
 f14:=⟨Tryz.f141.name,by decide,Tryz.func141.trans (congrArg some (by kernel_rfl))⟩
 f15:=Tryz.func142.trans (congrArg some (by kernel_rfl))
 f20:=⟨Tryz.f163.name,by decide,Tryz.func163.trans (congrArg some (by kernel_rfl))⟩
 f21:=⟨Tryz.f164.name,by decide,Tryz.func164.trans (congrArg some (by kernel_rfl))⟩
 f22:=⟨Tryz.f165.name,by decide,Tryz.func165.trans (congrArg some (by kernel_rfl))⟩
 f23:=⟨Tryz.f166.name,by decide,Tryz.func166.trans (congrArg some (by kernel_rfl))⟩
 f24:=⟨Tryz.f167.name,by decide,Tryz.func167.trans (congrArg some (by kernel_rfl))⟩
 f25:=⟨Tryz.f168.name,by decide,Tryz.func168.trans (congrArg some (by kernel_rfl))⟩
 f26:=⟨Tryz.f169.name,by decide,Tryz.func169.trans (congrArg some (by kernel_rfl))⟩
 f27:=⟨Tryz.f170.name,by decide,Tryz.func170.trans (congrArg some (by kernel_rfl))⟩
 f28:=Tryz.func171.trans (congrArg some (by kernel_rfl))
 f29:=Tryz.func172.trans (congrArg some (by kernel_rfl))
 f46:=⟨Tryz.f184.name,by decide,Tryz.func184.trans (congrArg some (by kernel_rfl))⟩
 f47:=Tryz.func185.trans (congrArg some (by kernel_rfl))
 f48:=Tryz.func186.trans (congrArg some (by kernel_rfl))
 f49:=⟨Tryz.f187.name,by decide,Tryz.func187.trans (congrArg some (by kernel_rfl))⟩
 f50:=⟨Tryz.f188.name,by decide,Tryz.func188.trans (congrArg some (by kernel_rfl))⟩
 f57:=⟨Tryz.f200.name,by decide,Tryz.func200.trans (congrArg some (by kernel_rfl))⟩
 t0:=Tryz.underlying0
 a0:=Tryz.isAgg0
 z0:=Tryz.sizeOf0
 v0:=Tryz.zeroValue0
 t3:=Tryz.underlying3
 a3:=Tryz.isAgg3
 z3:=Tryz.sizeOf3
 v3:=Tryz.zeroValue3
 t4:=Tryz.underlying4
 a4:=Tryz.isAgg4
 z4:=Tryz.sizeOf4
 v4:=Tryz.zeroValue4
 t5:=Tryz.underlying5
 a5:=Tryz.isAgg5
 z5:=Tryz.sizeOf5
 v5:=Tryz.zeroValue5
 t9:=Tryz.underlying9
 a9:=Tryz.isAgg9
 z9:=Tryz.sizeOf9
 v9:=Tryz.zeroValue9
 t22:=Tryz.underlying22
 a22:=Tryz.isAgg22
 z22:=Tryz.sizeOf22
 v22:=Tryz.zeroValue22
 t25:=Tryz.underlying122
 a25:=Tryz.isAgg122
 z25:=Tryz.sizeOf122
 v25:=Tryz.zeroValue122
 t39:=Tryz.underlying158
 a39:=Tryz.isAgg158
 z39:=Tryz.sizeOf158
 v39:=Tryz.zeroValue158
 t45:=Tryz.underlying178
 a45:=Tryz.isAgg178
 z45:=Tryz.sizeOf178
 v45:=Tryz.zeroValue178
 t46:=Tryz.underlying179
 a46:=Tryz.isAgg179
 z46:=Tryz.sizeOf179
 v46:=Tryz.zeroValue179
 t50:=Tryz.underlying110
 a50:=Tryz.isAgg110
 z50:=Tryz.sizeOf110
 v50:=Tryz.zeroValue110
 t53:=Tryz.underlying185
 a53:=Tryz.isAgg185
 z53:=Tryz.sizeOf185
 v53:=Tryz.zeroValue185
 t55:=Tryz.underlying187
 a55:=Tryz.isAgg187
 z55:=Tryz.sizeOf187
 v55:=Tryz.zeroValue187
 t66:=Tryz.underlying201
 a66:=Tryz.isAgg201
 z66:=Tryz.sizeOf201
 v66:=Tryz.zeroValue201
 t70:=Tryz.underlying205
 a70:=Tryz.isAgg205
 z70:=Tryz.sizeOf205
 v70:=Tryz.zeroValue205
 t76:=Tryz.underlying210
 a76:=Tryz.isAgg210
 z76:=Tryz.sizeOf210
 v76:=Tryz.zeroValue210
 t77:=Tryz.underlying211
 a77:=Tryz.isAgg211
 z77:=Tryz.sizeOf211
 v77:=Tryz.zeroValue211 }
end Go.Proofs
namespace Go.Proofs.YthhohbidjhcjeaaGreatDoor.H
open Go.RowKit Go.Shelf Go.Sort Go.Proofs.YthhohbidjhcjeaaGreatDoorW.PrintWords Go.Proofs.YthhohbidjhcjeaaGreatDoorW.PrintLast Go.Proofs.YthhohbidjhcjeaaGreatDoorW.PrintMore
open Go.Proofs.YthhohbidjhcjeaaGreatDoor.Q Go.Proofs.YthhohbidjhcjeaaGreatDoor.Pl
set_option linter.unusedVariables false
set_option linter.unusedSimpArgs false
/-- An entry, and where its lines lie. -/
structure E4 where
 s : S41
 X : Option Addr
 c : Nat
instance : Inhabited E4:=⟨⟨z41,none,0⟩⟩
def encE (e : E4) : List Value:=[.string e.s.f0,.int .i64 e.s.f1,.slice e.X e.s.f2.length e.c,.string e.s.f3]
def cfE (a b : E4) : Int:=cmpP a.s.f0 b.s.f0
theorem ltE (a b : E4) : ltOf cfE a b = ltP a.s.f0 b.s.f0:=by
 unfold ltOf cfE
 rw [Bool.eq_iff_iff,decide_eq_true_eq,cmp_lt]
theorem swoE : SWO (ltOf cfE) where
 irrefl x:=by rw [ltE,ltP_irrefl]
 trans x y z h1 h2:=by rw [ltE] at *; exact ltP_trans h1 h2
 ntrans x y z h1 h2:=by
  rw [ltE] at *
  cases h : ltP x.s.f0 z.s.f0 with
  | false => rfl
  | true =>
   by_cases e : y.s.f0 = x.s.f0
   ·rw [e,h] at h2; cases h2
   ·have:=ltP_total h1 (fun k => e k.symm)
    rw [ltP_trans this h] at h2; cases h2
theorem order_grow (p q : ByteArray) (x1 x2 x3 y1 y2 y3 : Value) (h1 : x1.oneCell' = true) (h2 : x2.oneCell' = true) (h3 : x3.oneCell' = true) (k1 : y1.oneCell' = true) (k2 : y2.oneCell' = true) (k3 : y3.oneCell' = true) (w : World) :
  Calls Tryz.prog 107 #[.agg #[.string p,x1,x2,x3],.agg #[.string q,y1,y2,y3]] w fun e w' => e = .returned (.int .i64 (cmpP p q)) ∧ ∃ n os,w' = grow (w.drewN n) os:=by
 have hC:=fun W => Tryz.strings_Compare p q W
 go_enter Tryz.func107,Tryz.ntmps107
 go_wp2_with (go_at_call 143; refine (hC _).mono ?_; rintro e w' ⟨rfl,rfl⟩)
 go_ret
 first
 | exact ⟨rfl,1,_,by rw [alloc_eq_grow,alloc_eq_grow,grow_grow]; rfl⟩
 | exact ⟨rfl,0,_,by rw [alloc_eq_grow,alloc_eq_grow,grow_grow]; rfl⟩
theorem cmpE (blk off size : Nat) (w : World) : CmpLays Tryz.prog 107 #[] encE 4 cfE blk off size w:=fun m os dk _ x y =>
 order_grow x.s.f0 y.s.f0 _ _ _ _ _ _ rfl rfl rfl rfl rfl rfl _
theorem reps_E {w : World} {l : List S41} {inner : List Value} (h : Reps (Rw w) 4 l inner) : ∀ m,m ≤ l.length → ∃ d : List E4,d.length = m ∧ ∀ j e,d[j]? = some e → l[j]? = some e.s ∧ Re w e.s e.X e.c ∧ (inner.drop (j * 4)).take 4 = encE e
 | 0,_ => ⟨[],rfl,fun j e he => by simp at he⟩
 | m + 1,hm => by
  obtain ⟨d,hd,hall⟩:=reps_E h m (by omega)
  obtain ⟨X,c,e,rx⟩:=h.2 m _ (List.getElem?_eq_getElem (show m < l.length by omega))
  refine ⟨d ++ [⟨l[m],X,c⟩],by rw [List.length_append,hd]; rfl,fun j x hx => ?_⟩
  rcases Nat.lt_or_ge j d.length with hj | hj
  ·rw [List.getElem?_append_left hj] at hx
   exact hall j x hx
  ·have hj' : j = m:=by
    have:=(List.getElem?_eq_some_iff.1 hx).1
    rw [List.length_append,List.length_singleton] at this
    omega
   subst hj'
   rw [List.getElem?_append_right hj,hd,Nat.sub_self] at hx
   have:=Option.some.inj hx
   subst this
   exact ⟨List.getElem?_eq_getElem (show j < l.length by omega),rx,e⟩
theorem below_grow' {B : Nat} {w W : World} (h : Below B w W) (hB : B ≤ W.heap.size) (os : Array Obj) : Below B w (grow W os):=h.trans ⟨rfl,rfl,rfl,by rw [size_grow]; omega,fun k hk => heap_grow_old W os (by omega)⟩
set_option maxHeartbeats 4000000 in
theorem sort_at (w : World) (l : List S41) (g cap : Nat) (W : World) (hrow : Row w W (.slice (some ⟨g,0,none⟩) l.length cap) l) (hB : Below w.heap.size w W) (hl : l.length ≤ 1000000000) (hd : Dis l) :
  Calls Tryz.prog 106 #[.slice (some ⟨g,0,none⟩) l.length cap,.func (.func 107) #[] #[]] W fun e W' => e = .returned (.tuple #[]) ∧ Below w.heap.size w W' ∧ ReadsRow (Rw w) 4 W' (some ⟨g,0,none⟩) l.length (sortV l):=by
 have eg : ∀ args w,(callFunc 107 args).run Tryz.prog w = .ok (.enter 107 args) w:=enters_of Tryz.func107 (by kernel_rfl) rfl
 obtain ⟨inner,⟨hlen,ho⟩,hr⟩:=hrow
 rcases ho with ⟨he,_⟩ | ⟨g',cap',cur,he,hg,hh,hnc,hcm,hcs,ht⟩
 ·cases he
 injection he with e1 e2 e3
 injection e1 with e1
 injection e1 with e1
 subst e1
 obtain ⟨d,hdl,hall⟩:=reps_E hr l.length (Nat.le_refl _)
 have hds : d.toArray.size = l.length:=by simp [hdl]
 have hmap : d.map (·.s) = l:=by
  apply List.ext_getElem?
  intro j
  rw [List.getElem?_map]
  rcases Nat.lt_or_ge j d.length with hj | hj
  ·rw [List.getElem?_eq_getElem hj]
   exact ((hall j _ (List.getElem?_eq_getElem hj)).1).symm
  ·rw [List.getElem?_eq_none hj,List.getElem?_eq_none (by omega)]
   rfl
 have hH : HoldsK encE 4 W g 0 d.toArray:=by
  intro t htt
  rw [size_flatK,hds] at htt
  have hq : t / 4 < d.length:=by omega
  obtain ⟨h1,h2,h3⟩:=hall (t / 4) _ (List.getElem?_eq_getElem hq)
  refine ⟨?_,blk_frozen hh _⟩
  rw [blk_cell hh,Nat.zero_add,get_flatK _ _ _ _ (by rw [hds]; exact htt)]
  have hget : d.toArray[t / 4]! = d[t / 4]:=by
   rw [getElem!_pos d.toArray (t / 4) (by rw [hds]; omega)]
   simp
  rw [hget,← h3]
  have ht' : cur.toList[t]? = inner[t]?:=by
   rw [← ht,List.getElem?_take,if_pos htt]
  have hin : t < inner.length:=by rw [hlen]; exact htt
  have e4 : ((inner.drop (t / 4 * 4)).take 4)[t % 4]! = inner[t]:=by
   rw [getElem!_pos _ _ (by rw [List.length_take,List.length_drop]; omega),List.getElem_take,List.getElem_drop]
   congr 1
   omega
  show cur[t]? = some (id _)
  rw [id,e4,← Array.getElem?_toList,ht',List.getElem?_eq_getElem hin]
 have H:=AnyQ.slices_SortFunc Tryz.sortE 4 Tryz.isAgg41 Tryz.sizeOf41 encE (fun _ => rfl) (fun e v hv => by
   simp only [encE,List.mem_cons,List.not_mem_nil,or_false] at hv
   rcases hv with rfl | rfl | rfl | rfl <;> rfl) cfE swoE 107 #[] g 0 cap d.toArray W eg (cmpE g 0 d.toArray.size W) hH (blk_lt hh) (by rw [hds]; omega)
 rw [hds] at H
 refine H.mono ?_
 rintro e W' ⟨rfl,d',n,os,hp,hsd,rfl⟩
 obtain ⟨hp1,_,hp2⟩:=hp
 have hsz' : d'.size = l.length:=by rw [hp1,hds]
 have hperm : d'.toList.Perm d:=by
  have a1 : (d'.extract 0 l.length).toList = d'.toList:=by rw [← hsz']; simp
  have a2 : (d.toArray.extract 0 l.length).toList = d:=by rw [← hds]; simp
  rw [a1,a2] at hp2
  exact hp2
 have hb : Below w.heap.size w (sortWorldK encE 4 W g 0 n d' os):=by
  unfold sortWorldK putRowK
  have h1:=Go.Lib.below_putRow (enc:=(id : Value → Value)) (q:=n) (d:=flatK encE 4 d') hB hg
  exact below_grow' h1 h1.size os
 refine ⟨rfl,hb,?_⟩
 have hdis : ∀ i j (hi : i < d'.size) (hj : j < d'.size),i < j → d'[i].s.f0 ≠ d'[j].s.f0:=by
  have hdd : (d'.toList.map (·.s)).Pairwise (fun x y => x.f0 ≠ y.f0):=by
   have hpm : (d'.toList.map (·.s)).Perm l:=by rw [← hmap]; exact hperm.map _
   exact (hpm.pairwise_iff (fun h => h.symm)).mpr hd
  intro i j hi hj hij
  have:=List.pairwise_iff_getElem.mp hdd i j (by simpa using hi) (by simpa using hj) hij
  simpa using this
 have hsort : d'.toList.map (·.s) = sortV l:=by
  refine sort_uniq hd ?_ ?_
  ·refine List.pairwise_iff_getElem.mpr fun i j hi hj hij => ?_
   simp only [List.length_map,Array.length_toList] at hi hj
   have h1:=hsd i j (Nat.zero_le _) hij (by rw [← hsz']; exact hj)
   rw [getElem!_pos d' i hi,getElem!_pos d' j hj,ltE] at h1
   have h2:=ltP_total h1 (fun k => hdis i j hi hj hij k.symm)
   simpa using h2
  ·intro z
   rw [← hmap]
   exact (hperm.map _).mem_iff
 rw [← hsort]
 have hHk:=holdsK_sortWorldK encE 4 W g 0 n d.toArray d' os (blk_lt hh) hH (by rw [hp1])
 refine ⟨by rw [List.length_map,Array.length_toList,hsz'],by omega,fun _ => ⟨⟨g,0,none⟩,rfl,fun j p hj => ?_⟩⟩
 rw [List.getElem?_map] at hj
 obtain ⟨x,hx,rfl⟩:=Option.map_eq_some_iff.mp hj
 have hjs : j < d'.size:=by
  have:=(List.getElem?_eq_some_iff.1 hx).1
  simpa using this
 have hxd : x ∈ d:=hperm.mem_iff.mp (List.mem_of_getElem? hx)
 obtain ⟨q,hq,hqe⟩:=List.getElem_of_mem hxd
 have hre:=(hall q x (by rw [List.getElem?_eq_getElem hq,hqe])).2.1
 refine ⟨encE x,rfl,⟨x.X,x.c,rfl,hre⟩,fun i u hu => ?_⟩
 have hi4 : i < 4:=(List.getElem?_eq_some_iff.1 hu).1
 have hc:=(hHk.cell hjs hi4).1
 rw [Addr.add_lit]
 have hx2 : d'[j]! = x:=by
  rw [getElem!_pos d' j hjs]
  have:=(List.getElem?_eq_some_iff.1 hx).2
  simpa using this
 rw [hx2] at hc
 have hu2 : (encE x)[i]! = u:=by
  rw [getElem!_pos _ i hi4]
  exact (List.getElem?_eq_some_iff.1 hu).2
 rw [hu2] at hc
 rw [← Nat.add_assoc]
 exact hc
end Go.Proofs.YthhohbidjhcjeaaGreatDoor.H
namespace Go.Proofs.YthhohbidjhcjeaaGreatDoor.H
open Go.RowKit Go.Proofs.YthhohbidjhcjeaaGreatDoor.Q Go.Proofs.YthhohbidjhcjeaaGreatDoor.Pl
set_option linter.unusedVariables false
set_option linter.unusedSimpArgs false
theorem doE_add {l : List S41} {p : S25} (h : p.f0 = 1 ∨ p.f0 = 3 ∨ p.f0 = 5) : doE l p = addE l p ∧ doL l p = insL l (newE p):=by
 unfold doE doL
 rw [if_neg (by omega),if_neg (by omega),if_pos h,if_neg (by omega),if_neg (by omega),if_pos h]
 exact ⟨rfl,rfl⟩
theorem doE_remove {l : List S41} {p : S25} (h : p.f0 = 2 ∨ p.f0 = 4 ∨ p.f0 = 6) : doE l p = removeE l p.f1 p.f0 ∧ doL l p = delL l p.f1:=by
 unfold doE doL
 rw [if_neg (by omega),if_neg (by omega),if_neg (by omega),if_neg (by omega),if_neg (by omega),if_neg (by omega)]
 exact ⟨rfl,rfl⟩
theorem doE_change {l : List S41} {p : S25} (h7 : 7 ≤ p.f0) (h9 : p.f0 ≤ 9) : doE l p = changeE l p ∧ doL l p = changeL l p:=by
 unfold doE doL
 rw [if_neg (by omega),if_pos h7,if_neg (by omega),if_pos h7]
 exact ⟨rfl,rfl⟩
theorem doE_move {l : List S41} {p : S25} (h : p.f0 = 10) : doE l p = moveE l p ∧ doL l p = moveL l p:=by
 unfold doE doL
 rw [if_pos h,if_pos h]
 exact ⟨rfl,rfl⟩
theorem kinds4 {p : S25} (h : primB p = true) : (p.f0 = 1 ∨ p.f0 = 3 ∨ p.f0 = 5) ∨ (p.f0 = 2 ∨ p.f0 = 4 ∨ p.f0 = 6) ∨ (7 ≤ p.f0 ∧ p.f0 ≤ 9) ∨ p.f0 = 10:=by
 have:=primB_lo h
 omega
theorem mvP_back {s fr to_ : ByteArray} (h : withinB s to_ = false) : mvP (mvP s fr to_) to_ fr = s:=by
 cases k : withinB s fr with
 | true => rw [mvP_in _ k,mvP_in _ (mv_within to_ k),mv_back to_ k]
 | false => rw [mvP_out _ k,mvP_out _ h]
theorem ofinv_add {p : S25} (h : p.f0 = 1 ∨ p.f0 = 3 ∨ p.f0 = 5) : ((invS p).f0 = 2 ∨ (invS p).f0 = 4 ∨ (invS p).f0 = 6) ∧ (invS p).f1 = p.f1 ∧ newE (invS p) = newE p:=by
 obtain ⟨k,a,b,c,d,e,f⟩:=p
 dsimp only at h
 rcases h with rfl | rfl | rfl
 ·exact ⟨.inl rfl,rfl,rfl⟩
 ·exact ⟨.inr (.inl rfl),rfl,rfl⟩
 ·exact ⟨.inr (.inr rfl),rfl,rfl⟩
theorem ofinv_remove {p : S25} (h : p.f0 = 2 ∨ p.f0 = 4 ∨ p.f0 = 6) : ((invS p).f0 = 1 ∨ (invS p).f0 = 3 ∨ (invS p).f0 = 5) ∧ (invS p).f1 = p.f1 ∧ newE (invS p) = newE p:=by
 obtain ⟨k,a,b,c,d,e,f⟩:=p
 dsimp only at h
 rcases h with rfl | rfl | rfl
 ·exact ⟨.inl rfl,rfl,rfl⟩
 ·exact ⟨.inr (.inl rfl),rfl,rfl⟩
 ·exact ⟨.inr (.inr rfl),rfl,rfl⟩
theorem ofinv_change {p : S25} (h7 : 7 ≤ p.f0) (h9 : p.f0 ≤ 9) : (invS p).f0 = p.f0 ∧ (invS p).f1 = p.f1 ∧ (invS p).f4 = p.f4 ∧ (p.f0 = 7 → (invS p).f5 = p.f6 ∧ (invS p).f6 = p.f5) ∧ (8 ≤ p.f0 → (invS p).f3 = p.f2 ∧ (invS p).f2 = p.f3):=by
 obtain ⟨k,a,b,c,d,e,f⟩:=p
 dsimp only at h7 h9
 have : k = 7 ∨ k = 8 ∨ k = 9:=by omega
 rcases this with rfl | rfl | rfl
 ·exact ⟨rfl,rfl,rfl,fun _ => ⟨rfl,rfl⟩,fun h => absurd h (show ¬ (8 : Int) ≤ 7 by decide)⟩
 ·exact ⟨rfl,rfl,rfl,fun h => absurd h (show ¬ (8 : Int) = 7 by decide),fun _ => ⟨rfl,rfl⟩⟩
 ·exact ⟨rfl,rfl,rfl,fun h => absurd h (show ¬ (9 : Int) = 7 by decide),fun _ => ⟨rfl,rfl⟩⟩
theorem ofinv_move {p : S25} (h : p.f0 = 10) : (invS p).f0 = 10 ∧ (invS p).f1 = p.f2 ∧ (invS p).f2 = p.f1:=by
 obtain ⟨k,a,b,c,d,e,f⟩:=p
 dsimp only at h
 subst h
 exact ⟨rfl,rfl,rfl⟩
theorem change_back {x y : S41} {p : S25} (hp : primB p = true) (h7 : 7 ≤ p.f0) (h9 : p.f0 ≤ 9) (h : changeV x p = some y) : changeV y (invS p) = some x:=by
 obtain ⟨i0,i1,i4,i5,i3⟩:=ofinv_change h7 h9
 have : p.f0 = 7 ∨ p.f0 = 8 ∨ p.f0 = 9:=by omega
 unfold changeV at h ⊢
 rw [i0]
 rcases this with k | k | k
 ·rw [if_pos k] at h ⊢
  obtain ⟨l,hl,rfl⟩:=Option.map_eq_some_iff.mp h
  rw [i4,(i5 k).1,(i5 k).2]
  show Option.map (fun l => { x with f2:=l }) (hunkV l p.f4 p.f6 p.f5) = _
  rw [hunk_back hl]
  rfl
 ·rw [if_neg (by omega),if_pos k] at h ⊢
  obtain ⟨l,hl,rfl⟩:=Option.map_eq_some_iff.mp h
  rw [(i3 (by omega)).1,(i3 (by omega)).2]
  obtain ⟨a,b,c⟩:=prim_token hp k
  show Option.map (fun l => { x with f2:=l }) (tokV l p.f2 p.f3) = _
  rw [tok_back a b c hl]
  rfl
 ·rw [if_neg (by omega),if_neg (by omega)] at h ⊢
  split at h
  ·rename_i e
   rw [← Option.some.inj h,(i3 (by omega)).1,(i3 (by omega)).2]
   simp only [if_true]
   rw [← e]
  ·cases h
theorem move_back {l : List S41} {fr to_ : ByteArray} (hs : Srt l) (h1 : ∀ x ∈ l,withinB x.f0 to_ = false) (ap : apartB fr to_ = true) : (∀ x ∈ sortV (l.map (mvX fr to_)),withinB x.f0 fr = false) ∧ sortV ((sortV (l.map (mvX fr to_))).map (mvX to_ fr)) = l:=by
 obtain ⟨a1,a2⟩:=apart_within ap
 have hd:=move_dis hs (fr:=fr) h1
 have hn : ∀ x ∈ sortV (l.map (mvX fr to_)),withinB x.f0 fr = false:=by
  intro x hx
  rw [sort_mem] at hx
  obtain ⟨z,hz,rfl⟩:=List.mem_map.mp hx
  show withinB (mvP z.f0 fr to_) fr = false
  cases k : withinB z.f0 fr with
  | false => rw [mvP_out _ k,k]
  | true =>
   rw [mvP_in _ k]
   cases m : withinB (mv z.f0 fr to_) fr with
   | false => rfl
   | true =>
    rcases within_line (mv_within to_ k) m with h | h
    ·rw [a2] at h; cases h
    ·rw [a1] at h; cases h
 refine ⟨hn,srt_ext (sort_srt (move_dis (sort_srt hd) hn)) hs fun s => ?_⟩
 rw [move_find (sort_srt hd) hn]
 cases hf : withinB s fr with
 | true =>
  have hm:=mv_within to_ hf
  rw [if_pos rfl,move_find hs h1,hm,if_pos rfl,mv_back to_ hf]
  cases hx : findV l s with
  | none => rfl
  | some x =>
   rw [Option.bind_some,if_pos hf,Option.bind_some,if_pos rfl]
   have:=(find_mem hx).2
   rw [← this]
 | false =>
  rw [if_neg (by simp)]
  cases ht : withinB s to_ with
  | true =>
   rw [if_pos rfl]
   exact (find_none.mpr fun x hx e => by have:=h1 x hx; rw [e,ht] at this; cases this).symm
  | false => rw [if_neg (by simp),move_find hs h1,ht,hf,if_neg (by simp),if_neg (by simp)]
/-- What undoes a patch can be done behind it, and makes the tree that was. -/
theorem undo {l : List S41} {p : S25} (h : applyE l p = 0) : applyE (doL l p) (invS p) = 0 ∧ doL (doL l p) (invS p) = l:=by
 have hT:=apply_tree h
 obtain ⟨ht,hp,hd⟩:=apply_zero.mp h
 have hq:=primB_inv hp
 rw [apply_zero]
 refine (fun (k : doE (doL l p) (invS p) = 0 ∧ doL (doL l p) (invS p) = l) => ⟨⟨hT,hq,k.1⟩,k.2⟩) ?_
 rcases kinds4 hp with hk | hk | ⟨h7,h9⟩ | h10
 ·obtain ⟨e1,e2⟩:=doE_add (l:=l) hk
  rw [e1] at hd
  rw [e2] at hT ⊢
  obtain ⟨i0,i1,i2⟩:=ofinv_add hk
  obtain ⟨e3,e4⟩:=doE_remove (l:=insL l (newE p)) i0
  rw [e3,e4,i1]
  obtain ⟨hn,hu,hl⟩:=add_zero.mp hd
  have hf:=ins_find ht.s (x:=newE p) hn
  have hnw:=ht.none_within hn
  have hfp : findV (insL l (newE p)) p.f1 = some (newE p):=by rw [hf]; exact if_pos rfl
  refine ⟨?_,?_⟩
  ·have:=remove_zero hT.s (p:=invS p)
   rw [i1,i2] at this
   rw [this]
   refine ⟨hfp,fun x hx hw => ?_⟩
   rcases ins_mem.mp hx with rfl | hx
   ·rfl
   ·rw [hnw x hx] at hw; cases hw
  ·refine srt_ext (del_srt hT.s _) ht.s fun s => ?_
   rw [del_find hT.s hfp,hf]
   by_cases e : s = p.f1
   ·rw [if_pos e,e,hn]
   ·rw [if_neg e]; exact if_neg e
 ·obtain ⟨e1,e2⟩:=doE_remove (l:=l) hk
  rw [e1] at hd
  rw [e2] at hT ⊢
  obtain ⟨i0,i1,i2⟩:=ofinv_remove hk
  obtain ⟨e3,e4⟩:=doE_add (l:=delL l p.f1) i0
  rw [e3,e4,i2]
  obtain ⟨hn,hi⟩:=(remove_zero ht.s).mp hd
  have hf:=del_find ht.s hn
  have hfp : findV (delL l p.f1) p.f1 = none:=by rw [hf,if_pos rfl]
  refine ⟨?_,?_⟩
  ·rw [add_zero,i1]
   refine ⟨hfp,fun u hu => ?_,?_⟩
   ·obtain ⟨y,hy,k⟩:=ht.parent hn hu
    exact ⟨y,by rw [hf,if_neg (ltP_ne (parent_lt hu)),hy],k⟩
   ·have:=del_len ht.s hn
    have:=ht.n
    omega
  ·refine srt_ext (ins_srt hT.s hfp) ht.s fun s => ?_
   rw [ins_find hT.s (x:=newE p) hfp,hf]
   have e1 : (newE p).f0 = p.f1:=rfl
   rw [e1]
   by_cases e : s = p.f1
   ·rw [if_pos e,e,hn]
   ·rw [if_neg e,if_neg e]
 ·obtain ⟨e1,e2⟩:=doE_change (l:=l) h7 h9
  rw [e1] at hd
  rw [e2] at hT ⊢
  obtain ⟨i0,i1,_⟩:=ofinv_change h7 h9
  obtain ⟨e3,e4⟩:=doE_change (l:=changeL l p) (p:=invS p) (by omega) (by omega)
  rw [e3,e4]
  obtain ⟨x,y,hx,hk,hc⟩:=change_zero.mp hd
  obtain ⟨c0,c1⟩:=change_f0 hc
  have hx0:=(find_mem hx).2
  rw [change_L hx hc] at hT ⊢
  have hf:=set_find ht.s hx (c0.trans hx0)
  have hfp : findV (setL l p.f1 y) p.f1 = some y:=by rw [hf,if_pos rfl]
  have hcb:=change_back hp h7 h9 hc
  refine ⟨?_,?_⟩
  ·rw [change_zero,i0,i1]
   exact ⟨y,x,hfp,by rw [c1,hk],hcb⟩
  ·have hfp' : findV (setL l p.f1 y) (invS p).f1 = some y:=by rw [i1]; exact hfp
   rw [change_L hfp' hcb,i1]
   refine srt_ext (set_srt hT.s hfp hx0) ht.s fun s => ?_
   rw [set_find hT.s hfp hx0,hf]
   by_cases e : s = p.f1
   ·rw [if_pos e,e,hx]
   ·rw [if_neg e,if_neg e]
 ·obtain ⟨e1,e2⟩:=doE_move (l:=l) h10
  rw [e1] at hd
  rw [e2] at hT ⊢
  obtain ⟨i0,i1,i2⟩:=ofinv_move h10
  obtain ⟨e3,e4⟩:=doE_move (l:=moveL l p) i0
  rw [e3,e4]
  obtain ⟨⟨x0,hx0⟩,hn,hu,hr⟩:=move_zero.mp hd
  obtain ⟨_,hap⟩:=prim_move hp h10
  obtain ⟨a1,a2⟩:=apart_within hap
  have hnw:=ht.none_within hn
  have hf:=move_find ht.s (fr:=p.f1) hnw
  obtain ⟨hnb,hback⟩:=move_back ht.s hnw hap
  refine ⟨?_,?_⟩
  ·rw [move_zero,i1,i2]
   refine ⟨?_,?_,fun u hq => ?_,fun x hx => ?_⟩
   ·refine ⟨{ x0 with f0:=p.f2 },?_⟩
    unfold moveL
    have hm : mv p.f2 p.f2 p.f1 = p.f1:=by
     have:=mv_data (s:=p.f2) (fr:=p.f2) p.f1 (r:=[]) (by simp)
     exact data_inj (by rw [this]; simp)
    rw [hf,within_refl,if_pos rfl,hm,hx0,Option.bind_some,within_refl,if_pos rfl]
   ·unfold moveL
    exact find_none.mpr fun x hx e => by have:=hnb x hx; rw [e,within_refl] at this; cases this
   ·obtain ⟨y,hy,k⟩:=ht.parent hx0 hq
    refine ⟨y,?_,k⟩
    have n1 : withinB u p.f2 = false:=by
     cases hh : withinB u p.f2 with
     | false => rfl
     | true => have:=within_trans (parent_within hq) hh; rw [a1] at this; cases this
    have n2 : withinB u p.f1 = false:=by
     cases hh : withinB u p.f1 with
     | false => rfl
     | true => exact absurd (within_antisymm hh (parent_within hq)) (ltP_ne (parent_lt hq))
    unfold moveL
    rw [hf,n1,n2,if_neg (by simp),if_neg (by simp),hy]
   ·unfold moveL at hx
    rw [sort_mem] at hx
    obtain ⟨z,hz,rfl⟩:=List.mem_map.mp hx
    show rightB (mvP (mvP z.f0 p.f1 p.f2) p.f2 p.f1) = true
    rw [mvP_back (hnw z hz)]
    exact ((thing_iff z).mp (ht.t z hz)).1
  ·unfold moveL
   rw [i1,i2]
   exact hback
/-! ### several -/
/-- Several patches, one behind the other; none: one could not be done. -/
def runV : List S41 → List S25 → Option (List S41)
 | l,[] => some l
 | l,p :: ps => if applyE l p = 0 then runV (doL l p) ps else none
theorem run_append : ∀ (a : List S25) (l : List S41) (b : List S25),runV l (a ++ b) = (runV l a).bind (fun k => runV k b)
 | [],l,b => rfl
 | p :: a,l,b => by
  show (if applyE l p = 0 then runV (doL l p) (a ++ b) else none) = _
  show _ = (if applyE l p = 0 then runV (doL l p) a else none).bind _
  by_cases h : applyE l p = 0
  ·rw [if_pos h,if_pos h,run_append]
  ·rw [if_neg h,if_neg h]; rfl
theorem all_run : ∀ (ps : List S25) (l : List S41) (i : Nat),(∃ k,runV l ps = some k ∧ allV l ps i = (k,0,0)) ∨ (∃ e j,runV l ps = none ∧ e ≠ 0 ∧ allV l ps i = ([],e,j))
 | [],l,i => .inl ⟨l,rfl,rfl⟩
 | p :: ps,l,i => by
  show (∃ k,(if applyE l p = 0 then runV (doL l p) ps else none) = some k ∧ (if applyE l p = 0 then allV (doL l p) ps (i + 1) else ([],applyE l p,i)) = (k,0,0)) ∨ _
  by_cases h : applyE l p = 0
  ·rcases all_run ps (doL l p) (i + 1) with ⟨k,h1,h2⟩ | ⟨e,j,h1,h2,h3⟩
   ·exact .inl ⟨k,by rw [if_pos h,h1],by rw [if_pos h,h2]⟩
   ·exact .inr ⟨e,j,by show (if applyE l p = 0 then runV (doL l p) ps else none) = none; rw [if_pos h,h1],h2,by show (if applyE l p = 0 then allV (doL l p) ps (i + 1) else ([],applyE l p,i)) = _; rw [if_pos h,h3]⟩
  ·exact .inr ⟨applyE l p,i,by show (if applyE l p = 0 then runV (doL l p) ps else none) = none; rw [if_neg h],h,by show (if applyE l p = 0 then allV (doL l p) ps (i + 1) else ([],applyE l p,i)) = _; rw [if_neg h]⟩
theorem run_tree : ∀ (ps : List S25) (l k : List S41),Tr l → runV l ps = some k → Tr k
 | [],l,k,ht,h => by rw [← Option.some.inj h]; exact ht
 | p :: ps,l,k,ht,h => by
  have h' : (if applyE l p = 0 then runV (doL l p) ps else none) = some k:=h
  split at h'
  ·rename_i h0
   exact run_tree ps _ k (apply_tree h0) h'
  ·cases h'
/-- What undoes several makes the tree that was. -/
theorem undo_all : ∀ (ps : List S25) (l k : List S41),runV l ps = some k → runV k (ps.reverse.map invS) = some l
 | [],l,k,h => by rw [← Option.some.inj h]; rfl
 | p :: ps,l,k,h => by
  have h' : (if applyE l p = 0 then runV (doL l p) ps else none) = some k:=h
  split at h'
  ·rename_i h0
   have ih:=undo_all ps _ k h'
   obtain ⟨u1,u2⟩:=undo h0
   rw [List.reverse_cons,List.map_append,run_append,ih,Option.bind_some]
   show (if applyE (doL l p) (invS p) = 0 then runV (doL (doL l p) (invS p)) [] else none) = _
   rw [if_pos u1,u2]
   rfl
  ·cases h'
end Go.Proofs.YthhohbidjhcjeaaGreatDoor.H
namespace Go.Proofs.YthhohbidjhcjeaaGreatDoor.H
open Go.RowKit Go.Shelf Go.Proofs.YthhohbidjhcjeaaGreatDoorW.PrintWords Go.Proofs.YthhohbidjhcjeaaGreatDoorW.PrintLast Go.Proofs.YthhohbidjhcjeaaGreatDoorW.PrintMore
open Go.Proofs.YthhohbidjhcjeaaGreatDoor.Q Go.Proofs.YthhohbidjhcjeaaGreatDoor.Pl
set_option linter.unusedVariables false
set_option linter.unusedSimpArgs false
set_option maxHeartbeats 1000000 in
set_option maxRecDepth 100000 in
theorem moved_calls (p fr dst : ByteArray) (w : World) (hs : dst.size + p.size ≤ 140737488355328) : Calls Tryz.prog 105 #[.string p,.string fr,.string dst] w fun e w' => e = .returned (.tuple #[.string (if withinB p fr then mv p fr dst else e0),.bool (withinB p fr)]) ∧ Below w.heap.size w w':=by
 have hW:=path_Within.calls p fr (withinB p fr) w (within_f p fr)
 cases hb : withinB p fr with
 | false =>
  rw [hb] at hW
  rw [if_neg (by simp)]
  unfold e0
  go_enter Tryz.func105,Tryz.ntmps105
  go_wp2_with (go_at_call 98; refine hW.mono ?_; rintro e w' ⟨rfl,m,rfl⟩)
  refine bodyPost_ret ?_ rfl ⟨rfl,pw_below_drewN (Below.refl _ w) m⟩
  simp [results,Tryz.results105]
 | true =>
  have hle:=within_size hb
  rw [hb] at hW
  rw [if_pos rfl]
  unfold mv
  have hlen : (dst.size : Int) + ((p.size - fr.size : Nat) : Int) ≤ 9223372036854775807:=by omega
  have hsl : ∀ W,(Instr.slice 9 (.string p) (some (.int .i64 (fr.size : Int))) none none).run Tryz.prog W = .ok (.string (p.extract fr.size p.size)) W:=fun W => by
   rw [run_slice_string_from_if W 9 p .i64 _ Tryz.underlying9,if_pos ⟨by omega,by omega⟩,Int.toNat_natCast]
  go_enter Tryz.func105,Tryz.ntmps105
  go_wp2_with (go_at_call 98; refine hW.mono ?_; rintro e w' ⟨rfl,m,rfl⟩)
  refine bodyPost_ret ?_ rfl ⟨rfl,pw_below_drewN (Below.refl _ w) m⟩
  simp [results,Tryz.results105]
/-! ### rows, as the loop turns them -/
theorem ent_of {u : World} {L : List S41} {cur : Array Value} {n i : Nat} {x : S41} (hr : Reps (Rw u) 4 L (cur.toList.take (n * 4))) (hx : L[i]? = some x) : ∃ X d,Ent cur (i * 4) x X d ∧ Re u x X d:=by
 obtain ⟨X,d,hcs4,rx⟩:=hr.2 i x hx
 have key : ∀ k u,[Value.string x.f0,Value.int .i64 x.f1,Value.slice X x.f2.length d,Value.string x.f3][k]? = some u → cur[i * 4 + k]? = some u:=by
  intro k u hu
  rw [← hcs4,List.getElem?_take] at hu
  split at hu
  ·rw [List.getElem?_drop,List.getElem?_take] at hu
   split at hu
   ·simpa using hu
   ·cases hu
  ·cases hu
 exact ⟨X,d,⟨key 0 _ rfl,key 1 _ rfl,key 2 _ rfl,key 3 _ rfl⟩,rx⟩
theorem ent_set0 {cur : Array Value} {o : Nat} {x : S41} {X : Option Addr} {c : Nat} (h : Ent cur o x X c) (s : ByteArray) : Ent (cur.setIfInBounds o (.string s)) o { x with f0:=s } X c:=by
 refine ⟨?_,?_,?_,?_⟩
 ·have : o < cur.size:=(Array.getElem?_eq_some_iff.1 h.c0).1
  rw [Array.getElem?_setIfInBounds_self_of_lt this]
 ·rw [Array.getElem?_setIfInBounds_ne (by omega)]; exact h.c1
 ·rw [Array.getElem?_setIfInBounds_ne (by omega)]; exact h.c2
 ·rw [Array.getElem?_setIfInBounds_ne (by omega)]; exact h.c3
/-- The row, the first i of which have been moved. -/
def mvL (l : List S41) (fr to_ : ByteArray) (i : Nat) : List S41:=(l.take i).map (mvX fr to_) ++ l.drop i
theorem mvL_len (l : List S41) (fr to_ : ByteArray) (i : Nat) : (mvL l fr to_ i).length = l.length:=by
 unfold mvL
 rw [List.length_append,List.length_map,List.length_take,List.length_drop]
 omega
theorem mvL_get (l : List S41) (fr to_ : ByteArray) (i : Nat) (h : i < l.length) : (mvL l fr to_ i)[i]? = some l[i]:=by
 unfold mvL
 rw [List.getElem?_append_right (by rw [List.length_map,List.length_take]; omega),List.length_map,List.length_take,Nat.min_eq_left (by omega),Nat.sub_self,List.getElem?_drop]
 simp [List.getElem?_eq_getElem h]
theorem mvL_set (l : List S41) (fr to_ : ByteArray) (i : Nat) (h : i < l.length) : mvL l fr to_ (i + 1) = (mvL l fr to_ i).set i (mvX fr to_ l[i]):=by
 unfold mvL
 have hl : ((l.take i).map (mvX fr to_)).length = i:=by rw [List.length_map,List.length_take]; omega
 have h1 : l.drop i = l[i] :: l.drop (i + 1):=List.drop_eq_getElem_cons h
 rw [List.take_succ_eq_append_getElem h,List.map_append,h1,List.append_assoc]
 rw [List.set_append_right _ _ (by omega),hl,Nat.sub_self]
 rfl
theorem mvL_same (l : List S41) (fr to_ : ByteArray) (i : Nat) (h : i < l.length) (hw : withinB (l[i]).f0 fr = false) : mvL l fr to_ (i + 1) = mvL l fr to_ i:=by
 rw [mvL_set l fr to_ i h]
 have e : mvX fr to_ l[i] = l[i]:=by
  unfold mvX
  rw [mvP_out _ hw]
 rw [e]
 apply List.ext_getElem?
 intro j
 rw [List.getElem?_set]
 by_cases hj : i = j
 ·subst hj
  rw [if_pos rfl,if_pos (by rw [mvL_len]; exact h),mvL_get l fr to_ i h]
 ·rw [if_neg hj]
theorem mvL_all (l : List S41) (fr to_ : ByteArray) : mvL l fr to_ l.length = l.map (mvX fr to_):=by
 unfold mvL
 simp
theorem mvL_zero (l : List S41) (fr to_ : ByteArray) : mvL l fr to_ 0 = l:=by simp [mvL]
/-! ### sizes -/
theorem pieces_sum (c : UInt8) : ∀ l : List UInt8,((pieces c l).map (fun y => y.length + 1)).sum = l.length + 1
 | [] => rfl
 | b :: l => by
  have ih:=pieces_sum c l
  unfold pieces
  split
  ·rw [List.map_cons,List.sum_cons,ih,List.length_cons,List.length_nil]
   omega
  ·cases h : pieces c l with
   | nil => exact absurd h (pieces_ne c l)
   | cons p r =>
    rw [h,List.map_cons,List.sum_cons] at ih
    show ((((b :: p) :: r).map (fun y => y.length + 1)).sum) = _
    rw [List.map_cons,List.sum_cons,List.length_cons,List.length_cons]
    omega
theorem sum_le : ∀ L : List (List UInt8),(∀ y ∈ L,y.length ≤ 16) → (L.map (fun y => y.length + 1)).sum ≤ 17 * L.length
 | [],_ => Nat.le_refl _
 | y :: L,h => by
  have ih:=sum_le L (fun z hz => h z (List.mem_cons_of_mem _ hz))
  have h1:=h y (List.mem_cons_self ..)
  rw [List.map_cons,List.sum_cons,List.length_cons]
  omega
theorem part_size {s : ByteArray} (h : partB s = true) : s.size ≤ 16:=by
 unfold partB at h
 by_cases h0 : s.toList = []
 ·rw [if_pos h0] at h
  cases h
 ·rw [if_neg h0] at h
  by_cases h1 : s.size ≤ 16
  ·exact h1
  ·rw [if_neg h1] at h
   cases h
theorem right_size {s : ByteArray} (h : rightB s = true) : s.size ≤ 136:=by
 unfold rightB at h
 simp only [Bool.and_eq_true,List.all_eq_true,decide_eq_true_eq] at h
 have h1:=sum_le (pieces 47 s.data.toList) (fun y hy => by
  have:=part_size (h.1 y hy)
  have e : (⟨y.toArray⟩ : ByteArray).size = y.length:=by simp [ByteArray.size]
  omega)
 rw [pieces_sum,dlen] at h1
 omega
end Go.Proofs.YthhohbidjhcjeaaGreatDoor.H
namespace Go.Proofs.YthhohbidjhcjeaaGreatDoor.H
open Go.RowKit Go.Shelf Go.Proofs.YthhohbidjhcjeaaGreatDoorW.PrintWords Go.Proofs.YthhohbidjhcjeaaGreatDoorW.PrintLast Go.Proofs.YthhohbidjhcjeaaGreatDoorW.PrintMore
open Go.Proofs.YthhohbidjhcjeaaGreatDoor.Q Go.Proofs.YthhohbidjhcjeaaGreatDoor.Pl
set_option linter.unusedVariables false
set_option linter.unusedSimpArgs false
/-- The loop's memory: the row of one's own, turned so far. -/
structure Mv (u : World) (l : List S41) (fr to_ : ByteArray) (g cap i : Nat) (wr : World) : Prop where
 below : Below u.heap.size u wr
 row : ∃ cur,wr.heap[g]? = some (.cells cur 41 (0,0)) ∧ cur.size = cap * 4 ∧ Reps (Rw u) 4 (mvL l fr to_ i) (cur.toList.take (l.length * 4))
 ok : ∀ j (hj : j < l.length),j < i → rightB (mvP (l[j]).f0 fr to_) = true
set_option maxHeartbeats 8000000 in
set_option maxRecDepth 1000000 in
theorem move_at (l : List S41) (A : Option Addr) (c : Nat) (p : S25) (v5 v6 : Value) (w : World) (h5 : v5.oneCell' = true) (h6 : v6.oneCell' = true)
  (hr : Kd.C k41 w A l.length l) (ht : Tr l) (hp : primB p = true) (h10 : p.f0 = 10) :
  Calls Tryz.prog 58 #[.slice A l.length c,.agg #[.int .i64 p.f0,.string p.f1,.string p.f2,.string p.f3,.int .i64 p.f4,v5,v6]] w (Ans w (moveL l p) (moveE l p)):=by
 have hl : l.length ≤ 1000000000:=by have:=ht.n; omega
 have hs:=ht.s
 have hp2 : p.f2.size ≤ 136:=right_size (prim_move hp h10).1
 have hap:=(prim_move hp h10).2
 have HB : Aside0 (Below w.heap.size w (w.alloc (.cells #[.int .i64 p.f0,.string p.f1,.string p.f2,.string p.f3,.int .i64 p.f4,v5,v6] 25))):=⟨below_alloc (Below.refl _ _) _⟩
 have HX : Aside0 ((w.alloc (.cells #[.int .i64 p.f0,.string p.f1,.string p.f2,.string p.f3,.int .i64 p.f4,v5,v6] 25)).heap[w.heap.size]? = some (.cells #[.int .i64 p.f0,.string p.f1,.string p.f2,.string p.f3,.int .i64 p.f4,v5,v6] 25 (0,0))):=⟨blk_new _ _⟩
 have h1:=where_at l A c p.f1 _ (Kd.C_below hr HB.out) hl hs
 have h2:=fun W (hb : Below w.heap.size w W) => room_at l A c p.f2 W (Kd.C_below hr hb) hl hs (by omega)
 obtain ⟨b0,b1,b2,b3,b4,b5,b6⟩:=cells7 HX.out
 have HR:=Aside0.mk hr
 have HS:=Aside0.mk hs
 have HL:=Aside0.mk hl
 have HTR:=Aside0.mk ht
 have HAP:=Aside0.mk hap
 have HP2:=Aside0.mk hp2
 obtain ⟨err,herr⟩ : ∃ err : Int,moveE l p = err:=⟨_,rfl⟩
 rw [herr]
 have ER:=Aside0.mk herr
 clear hr hs hl herr ht hp h10 hap hp2
 cases hf : (findV l p.f1).isSome with
 | false =>
  have HE : Aside0 (err = 72):=⟨by rw [← ER.out]; unfold moveE; rw [hf]; rfl⟩
  rw [hf] at h1
  clear hf h2
  go_enter Tryz.func58,Tryz.ntmps58
  go_wp2_with (go_at_call 92; refine h1.mono ?_; rintro e w1 ⟨rfl,hb⟩)
  go_ret2
  exact ⟨HB.out.trans (hb.mono HB.out.size),by rw [HE.out]; rfl⟩
 | true =>
  obtain ⟨t,hte⟩ : ∃ t,roomV l p.f2 = t:=⟨_,rfl⟩
  rw [hf] at h1
  have HF:=Aside0.mk hf
  have HT:=Aside0.mk hte
  rw [hte] at h2
  clear hf hte
  by_cases h0 : t = 0
  ·subst h0
   have HE : Aside0 (err = if l.all (fun x => rightB (mvP x.f0 p.f1 p.f2)) then 0 else 41):=⟨by rw [← ER.out]; unfold moveE; rw [HF.out,HT.out]; rfl⟩
   go_enter Tryz.func58,Tryz.ntmps58
   go_upto_region 4 with (go_at_call 92; refine h1.mono ?_; rintro e w1 ⟨rfl,hb⟩)
   have hB1:=Aside0.mk (HB.out.trans (hb.mono HB.out.size))
   have hX1:=Aside0.mk (blk_below HX.out hb)
   obtain ⟨c0,c1,c2,c3,c4,c5,c6⟩:=cells7 hX1.out
   clear b0 b1 b2 b3 b4 b5 b6 HB HX h1 hb
   have h2':=h2 w1 hB1.out
   go_upto_region 7 with (go_at_call 91; refine h2'.mono ?_; rintro e u ⟨rfl,hb⟩)
   have hBu:=Aside0.mk (hB1.out.trans (hb.mono hB1.out.size))
   have hXu:=Aside0.mk (blk_below hX1.out hb)
   clear c0 c1 c2 c3 c4 c5 c6 hX1 h2 h2' hb
   have hcl:=clone_at u l A c u (Below.refl _ _) HL.out (rows_rw (Kd.C_below HR.out hBu.out) (Below.refl _ _))
   go_upto_region 8 with (go_at_call 73; refine hcl.mono ?_; rintro e w2 ⟨v,rfl,hrow,hb2,hown⟩)
   clear hcl
   have hlpos : Aside0 (0 < l.length):=⟨by
    obtain ⟨x,hx⟩:=Option.isSome_iff_exists.1 HF.out
    exact List.length_pos_of_mem (find_mem hx).1⟩
   obtain ⟨inner,⟨hlen,ho⟩,hrp⟩:=hrow
   rcases ho with ⟨rfl,hn0⟩ | ⟨g,cap,cur,rfl,hg,hh,hnc,hcm,hcs,ht⟩
   ·have:=hlpos.out; omega
   ·have S0 : Aside0 (Mv u l p.f1 p.f2 g cap 0 w2):=⟨⟨hb2,⟨cur,hh,hcs,by rw [mvL_zero,ht]; exact hrp⟩,fun j hj h => absurd h (Nat.not_lt_zero _)⟩⟩
    have HG:=Aside0.mk hg
    have HCM:=Aside0.mk hcm
    have hnc' : (l.length : Int) ≤ (cap : Int):=by omega
    have HNC:=Aside0.mk hnc
    clear hlen hrp hg hh hnc hcm hcs ht hb2 hown
    go_wp2
    go_loopg [32] l.length (fun kx s32 wr => ∃ i : Nat,s32 = .int .i64 i ∧ i + kx = l.length ∧ Aside0 (Mv u l p.f1 p.f2 g cap i wr))
    case atStart => exact ⟨0,rfl,by omega,S0⟩
    case round =>
     clear S0
     obtain ⟨i,rfl,hi,S1⟩:=hrel
     by_cases hlt : i < l.length
     ·have hii0 : (0 : Int) ≤ (i : Int):=by omega
      have hii1 : (i : Int) < (l.length : Int):=by omega
      have hdb : decide ((i : Int) < (l.length : Int)) = true:=decide_eq_true hii1
      have hwi : IntKind.i64.wrap ((i : Int) + 1) = ((i + 1 : Nat) : Int):=by rw [wrap_small _ (by omega) (by have:=HL.out; omega)]; omega
      obtain ⟨cur2,hh2,hcs2,hrp2⟩:=S1.out.row
      obtain ⟨X,d,hent,rx⟩:=ent_of hrp2 (mvL_get l p.f1 p.f2 i hlt)
      have hxu:=blk_below hXu.out S1.out.below
      obtain ⟨d0,d1,d2,d3,d4,d5,d6⟩:=cells7 hxu
      obtain ⟨e0',e1',e2',e3'⟩:=ent_cells hh2 hent
      obtain ⟨x,hx⟩ : ∃ x,l[i] = x:=⟨_,rfl⟩
      rw [hx] at hent rx e0' e1' e2' e3'
      have hxm : x ∈ l:=by rw [← hx]; exact List.getElem_mem hlt
      have hxr:=((thing_iff x).mp (HTR.out.t x hxm)).1
      have hxs:=right_size hxr
      have hM:=fun W => moved_calls x.f0 p.f1 p.f2 W (by have:=HP2.out; omega)
      have HXX:=Aside0.mk hx
      have HXR:=Aside0.mk hxr
      have HENT:=Aside0.mk hent
      have RX:=Aside0.mk rx
      have HH2:=Aside0.mk hh2
      have HCS2:=Aside0.mk hcs2
      have HRP2:=Aside0.mk hrp2
      have HXS:=Aside0.mk hxs
      have ff:=blk_frozen hh2 (i * 4)
      clear hent rx hh2 hcs2 hrp2 hxu hx hxm hxr hxs d0 d3 d4 d5 d6 e1' e2' e3'
      cases hw : withinB x.f0 p.f1 with
      | false =>
       rw [hw] at hM
       have HW:=Aside0.mk hw
       clear hw
       go_wp2
       go_region_held3 (fun U => U.cell? ⟨g,i * 4,none⟩ = some (.string x.f0) ∧ U.cell? ⟨w.heap.size,1,none⟩ = some (.string p.f1) ∧ U.cell? ⟨w.heap.size,2,none⟩ = some (.string p.f2)) (first | exact ⟨e0',d1,d2⟩ | exact ⟨pw_cell_below hb e0',pw_cell_below hb d1,pw_cell_below hb d2⟩) ((go_at_call 105; refine (hM _).mono ?_; rintro e w3 ⟨rfl,hb⟩))
       all_goals
        have S2 : Aside0 (Mv u l p.f1 p.f2 g cap (i + 1) w3):=⟨⟨(below_drew S1.out.below).trans (hb.mono S1.out.below.size),⟨cur2,blk_below (blk_drew HH2.out) hb,HCS2.out,by rw [mvL_same l p.f1 p.f2 i hlt (by rw [HXX.out]; exact HW.out)]; exact HRP2.out⟩,fun j hj hji => by
         rcases Nat.lt_or_ge j i with h | h
         ·exact S1.out.ok j hj h
         ·have : j = i:=by omega
          subst this
          rw [HXX.out,mvP_out _ HW.out]; exact HXR.out⟩⟩
        clear hb e0' d1 d2 hM
        go_wp2
        go_roundg (l.length - (i + 1))
        case measure => omega
        case rel => exact ⟨i + 1,by first | rfl | (rw [hwi]),by omega,S2⟩
      | true =>
       rw [hw] at hM
       have HW:=Aside0.mk hw
       obtain ⟨tt,htt⟩ : ∃ tt,mv x.f0 p.f1 p.f2 = tt:=⟨_,rfl⟩
       have HTT:=Aside0.mk htt
       rw [if_pos rfl,htt] at hM
       have hts : tt.size ≤ 140737488355328:=by
        rw [← htt]
        unfold mv
        have h1:=HP2.out
        have h2:=HXS.out
        have h3 : (x.f0.extract p.f1.size x.f0.size).size = x.f0.size - p.f1.size:=by simp
        rw [ByteArray.size_append,h3]
        omega
       obtain ⟨rb,hrb⟩ : ∃ rb,rightB tt = rb:=⟨_,rfl⟩
       have hP:=fun W => path_Right.calls tt rb W (by rw [path_f tt hts,hrb])
       have HRB:=Aside0.mk hrb
       clear hw htt hts hrb
       have hstep : Aside0 (∀ w3 w4,Below wr.drew.heap.size wr.drew w3 → Below (w3.setCell ⟨g,i * 4,none⟩ (.string tt)).heap.size (w3.setCell ⟨g,i * 4,none⟩ (.string tt)) w4 → Below u.heap.size u w4 ∧ (rb = true → Mv u l p.f1 p.f2 g cap (i + 1) w4)):=⟨by
        intro w3 w4 hb hb4
        have k1 : Below u.heap.size u w3:=(below_drew S1.out.below).trans (hb.mono S1.out.below.size)
        have k2 : Below u.heap.size u (w3.setCell ⟨g,i * 4,none⟩ (.string tt)):=below_set k1 HG.out
        have k3 : Below u.heap.size u w4:=k2.trans (hb4.mono k2.size)
        refine ⟨k3,fun hrt => ⟨k3,⟨_,blk_below (blk_set (blk_below (blk_drew HH2.out) hb) (i * 4) _) hb4,by rw [Array.size_setIfInBounds]; exact HCS2.out,?_⟩,fun j hj hji => ?_⟩⟩
        ·have h1:=reps_set HRP2.out (by rw [mvL_len]) (by rw [mvL_len,HCS2.out]; have:=HNC.out; omega) (Below.refl _ _) (same_set (i * 4) 0 (by omega) cur2 (.string tt)) (by rw [mvL_len]; exact hlt) (ent_set0 HENT.out tt) ⟨RX.out.l,RX.out.g⟩
         rw [mvL_len] at h1
         rw [mvL_set l p.f1 p.f2 i hlt,HXX.out]
         have h2 : mvX p.f1 p.f2 x = { x with f0:=tt }:=by
          unfold mvX
          rw [mvP_in _ HW.out,HTT.out]
         rw [h2]
         exact h1
        ·rcases Nat.lt_or_ge j i with h | h
         ·exact S1.out.ok j hj h
         ·have : j = i:=by omega
          subst this
          rw [HXX.out,mvP_in _ HW.out,HTT.out,HRB.out,hrt]⟩
       cases rb with
       | false =>
        go_wp2
        go_region_held3 (fun U => U.cell? ⟨g,i * 4,none⟩ = some (.string x.f0) ∧ U.cell? ⟨w.heap.size,1,none⟩ = some (.string p.f1) ∧ U.cell? ⟨w.heap.size,2,none⟩ = some (.string p.f2)) (first | exact ⟨e0',d1,d2⟩ | exact ⟨pw_cell_below hb e0',pw_cell_below hb d1,pw_cell_below hb d2⟩) ((go_at_call 105; refine (hM _).mono ?_; rintro e w3 ⟨rfl,hb⟩))
        all_goals
         have ff3:=blk_frozen (blk_below (blk_drew HH2.out) hb) (i * 4)
         have ee3:=pw_cell_below hb e0'
         have HBB:=Aside0.mk hb
         clear hb d1 d2 hM e0'
         go_wp2_with (go_at_call 66; refine (hP _).mono ?_; rintro e w4 ⟨rfl,hb4⟩)
         go_ret2
         have hbe:=hBu.out.trans ((hstep.out _ _ HBB.out hb4).1.mono hBu.out.size)
         have he41 : err = 41:=by
          rw [HE.out,if_neg]
          intro k
          have h1:=List.all_eq_true.mp k x (by rw [← HXX.out]; exact List.getElem_mem hlt)
          rw [mvP_in _ HW.out,HTT.out,HRB.out] at h1
          cases h1
         exact ⟨hbe,by rw [he41]; rfl⟩
       | true =>
        go_wp2
        go_region_held3 (fun U => U.cell? ⟨g,i * 4,none⟩ = some (.string x.f0) ∧ U.cell? ⟨w.heap.size,1,none⟩ = some (.string p.f1) ∧ U.cell? ⟨w.heap.size,2,none⟩ = some (.string p.f2)) (first | exact ⟨e0',d1,d2⟩ | exact ⟨pw_cell_below hb e0',pw_cell_below hb d1,pw_cell_below hb d2⟩) ((go_at_call 105; refine (hM _).mono ?_; rintro e w3 ⟨rfl,hb⟩))
        all_goals
         have ff3:=blk_frozen (blk_below (blk_drew HH2.out) hb) (i * 4)
         have ee3:=pw_cell_below hb e0'
         have HBB:=Aside0.mk hb
         clear hb d1 d2 hM e0'
         go_wp2_with (go_at_call 66; refine (hP _).mono ?_; rintro e w4 ⟨rfl,hb4⟩)
         have S2:=Aside0.mk ((hstep.out _ _ HBB.out hb4).2 (by first | trivial | rfl))
         go_roundg (l.length - (i + 1))
         case measure => omega
         case rel => exact ⟨i + 1,by first | rfl | (rw [hwi]),by omega,S2⟩
     ·have hie : i = l.length:=by omega
      have hdb : decide ((i : Int) < (l.length : Int)) = false:=decide_eq_false (by omega)
      have hn2:=(room_zero.mp HT.out).1
      have hdis:=move_dis HS.out (fr:=p.f1) (HTR.out.none_within hn2)
      obtain ⟨cur2,hh2,hcs2,hrp2⟩:=S1.out.row
      rw [hie,mvL_all] at hrp2
      have hlm : (l.map (mvX p.f1 p.f2)).length = l.length:=List.length_map ..
      have hrow : Row u wr (.slice (some ⟨g,0,none⟩) (l.map (mvX p.f1 p.f2)).length cap) (l.map (mvX p.f1 p.f2)) :=
       ⟨_,⟨hrp2.1,Or.inr ⟨g,cap,cur2,rfl,HG.out,hh2,by rw [hlm]; exact HNC.out,HCM.out,hcs2,by rw [hlm]⟩⟩,hrp2⟩
      have hS:=sort_at u (l.map (mvX p.f1 p.f2)) g cap wr hrow S1.out.below (by rw [hlm]; exact HL.out) hdis
      rw [hlm] at hS
      have he0 : Aside0 (err = 0):=⟨by
       rw [HE.out,if_pos]
       rw [List.all_eq_true]
       intro x hx
       obtain ⟨j,hj,rfl⟩:=List.getElem_of_mem hx
       exact S1.out.ok j hj (by omega)⟩
      clear hrow hrp2 hh2 hcs2 hn2 hdis hlm
      go_wp2_with (go_at_call 106; refine hS.mono ?_; rintro e w3 ⟨rfl,hb3,hrr⟩)
      go_ret2
      have hB3:=hBu.out.trans (hb3.mono hBu.out.size)
      refine ⟨hB3,?_⟩
      rw [if_pos he0.out]
      have hml : (moveL l p).length = l.length:=by unfold moveL; rw [sort_len,List.length_map]
      refine ⟨some ⟨g,0,none⟩,cap,by rw [hml]; rfl,by rw [hml]; exact HNC.out,?_⟩
      rw [hml]
      refine ReadsRow.imp_ hrr (Below.refl _ _) ?_
      rintro pp cl ⟨X',x',rfl,rx'⟩
      exact k41_mk _ pp rx'.l (Kd.C_below rx'.g hb3)
  ·have HE : Aside0 (err = t):=⟨by rw [← ER.out]; unfold moveE; rw [HF.out,HT.out,if_pos rfl,if_neg h0]⟩
   have hne : (t == 0) = false:=by simp [h0]
   have hne2 : (t != 0) = true:=by simp [h0]
   have H00:=Aside0.mk h0
   go_enter Tryz.func58,Tryz.ntmps58
   go_upto_region 4 with (go_at_call 92; refine h1.mono ?_; rintro e w1 ⟨rfl,hb⟩)
   have hB1:=Aside0.mk (HB.out.trans (hb.mono HB.out.size))
   have hX1:=Aside0.mk (blk_below HX.out hb)
   obtain ⟨c0,c1,c2,c3,c4,c5,c6⟩:=cells7 hX1.out
   clear b0 b1 b2 b3 b4 b5 b6 HB HX h1 hb
   have h2':=h2 w1 hB1.out
   go_wp2_with (go_at_call 91; refine h2'.mono ?_; rintro e u ⟨rfl,hb⟩)
   go_ret2
   exact ⟨hB1.out.trans (hb.mono hB1.out.size),by rw [HE.out,if_neg H00.out]; rfl⟩
end Go.Proofs.YthhohbidjhcjeaaGreatDoor.H
