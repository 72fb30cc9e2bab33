/- prim.where, path.Parent, prim.room. -/
import Derived.Test.YthhohbidjhcjeaaGreatDoorEM2
import Derived.Maps.AppendAt
import Derived.Lib.SliceRun
import Derived.Test.YthhohbidjhcjeaaGreatDoorEM1
import Derived.Deep.RegionLaw
import Derived.Lib.Overlaps
import Derived.Lib.AppendZerosOnto
import Derived.Laws.IdiomCopy
import Derived.Laws.NewBlocks
import Derived.Lib.Walk
import Derived.Lib.JoinLaws
import Derived.Shelf.RegionOpenPlain
namespace Go.Proofs.YthhohbidjhcjeaaGreatDoor.H
open Go.RowKit Go.Shelf Go.Proofs.YthhohbidjhcjeaaGreatDoorW.PrintWords Go.Proofs.YthhohbidjhcjeaaGreatDoorW.PrintLast Go.Proofs.YthhohbidjhcjeaaGreatDoorW.PrintMore
open Go.Proofs.YthhohbidjhcjeaaGreatDoor.Q
set_option linter.unusedVariables false
set_option linter.unusedSimpArgs false
theorem where_at (l : List S41) (A : Option Addr) (c : Nat) (p : ByteArray) (w : World) (hr : Kd.C k41 w A l.length l) (hl : l.length ≤ 1000000000) (hs : Srt l) :
  Calls Tryz.prog 92 #[.slice A l.length c,.string p] w fun e w' => e = .returned (.tuple #[.int .i64 (lowB l p : Nat),.bool (findV l p).isSome]) ∧ Below w.heap.size w w':=by
 have hC:=bsearch_at l A c p w hr hl (srt_mono hs p)
 rw [(has_find hs p).1] at hC
 clear hr hl hs
 go_enter Tryz.func92,Tryz.ntmps92
 go_wp2_with (go_at_call 130; refine hC.mono ?_; rintro e w' ⟨rfl,hb⟩)
 go_ret2
 exact ⟨rfl,hb⟩
def parentV (p : ByteArray) : Option ByteArray:=if Lib.lastIndexByte p 47 < 0 then none else some (p.extract 0 (Lib.lastIndexByte p 47).toNat)
theorem parent_calls (p : ByteArray) (w : World) (hp : p.size ≤ 1000000000000) :
  Calls Tryz.prog 89 #[.string p] w fun e w' => e = .returned (.tuple #[.string ((parentV p).getD ⟨#[]⟩),.bool (parentV p).isSome]) ∧ w' = w:=by
 have hC:=fun W => Tryz.strings_LastIndexByte p 47 (by omega) W
 rcases Lib.lastIndexByte_spec p 47 with ⟨he,_⟩ | ⟨k,hk,he,_⟩
 ·have hv : parentV p = none:=by unfold parentV; rw [he]; rfl
  rw [hv]
  rw [he] at hC
  go_enter Tryz.func89,Tryz.ntmps89
  go_wp2_with (go_at_call 129; refine (hC _).mono ?_; rintro e w' ⟨rfl,rfl⟩)
  go_ret2
  exact ⟨rfl,rfl⟩
 ·have hv : parentV p = some (p.extract 0 k):=by unfold parentV; rw [he,if_neg (by omega),Int.toNat_natCast]
  rw [hv]
  rw [he] at hC
  have h1 : decide ((k : Int) < 0) = false:=decide_eq_false (by omega)
  have h2 : (k : Int) ≤ (p.size : Int):=by omega
  have h3 : (0 : Int) ≤ (k : Int):=by omega
  clear he hv
  go_enter Tryz.func89,Tryz.ntmps89
  go_wp2_with (go_at_call 129; refine (hC _).mono ?_; rintro e w' ⟨rfl,rfl⟩)
  go_ret2
  exact ⟨by simp,rfl⟩
theorem parentV_size {p q : ByteArray} (h : parentV p = some q) : q.size < p.size:=by
 unfold parentV at h
 rcases Lib.lastIndexByte_spec p 47 with ⟨he,_⟩ | ⟨k,hk,he,_⟩
 ·rw [he] at h; simp at h
 ·rw [he,if_neg (by omega),Int.toNat_natCast] at h
  rw [← Option.some.inj h]
  simp
  omega
def roomV (l : List S41) (p : ByteArray) : Int :=
 if (findV l p).isSome then 71 else match parentV p with
 | none => 0
 | some up => match findV l up with
  | none => 72
  | some x => if x.f1 = 1 then 0 else 73
set_option maxHeartbeats 4000000 in
set_option maxRecDepth 1000000 in
theorem room_at (l : List S41) (A : Option Addr) (c : Nat) (p : ByteArray) (w : World) (hr : Kd.C k41 w A l.length l) (hl : l.length ≤ 1000000000) (hs : Srt l) (hp : p.size ≤ 1000000000000) :
  Calls Tryz.prog 91 #[.slice A l.length c,.string p] w fun e w' => e = .returned (.int .i64 (roomV l p)) ∧ Below w.heap.size w w':=by
 have hW:=fun q W (hb : Below w.heap.size w W) => where_at l A c q W (Kd.C_below hr hb) hl hs
 have hP:=fun W => parent_calls p W hp
 have HR:=Aside0.mk hr
 have HS:=Aside0.mk hs
 have HL:=Aside0.mk hl
 clear hr hs hl
 cases hf : (findV l p).isSome with
 | true =>
  have hv : roomV l p = 71:=by unfold roomV; rw [hf]; rfl
  rw [hv]
  have h1:=hW p w (Below.refl _ _)
  rw [hf] at h1
  clear hv hf hW hP
  go_enter Tryz.func91,Tryz.ntmps91
  go_wp2_with (go_at_call 92; refine h1.mono ?_; rintro e w' ⟨rfl,hb⟩)
  go_ret
  exact ⟨rfl,hb⟩
 | false =>
  have h1:=hW p w (Below.refl _ _)
  rw [hf] at h1
  cases hq : parentV p with
  | none =>
   have hv : roomV l p = 0:=by unfold roomV; rw [hf,hq]; rfl
   rw [hv]
   rw [hq] at hP
   clear hv hf hW hq
   go_enter Tryz.func91,Tryz.ntmps91
   go_upto_region 4 with (go_at_call 92; refine h1.mono ?_; rintro e w1 ⟨rfl,hb⟩)
   go_wp2_with (go_at_call 89; refine (hP _).mono ?_; rintro e w' ⟨rfl,rfl⟩)
   go_ret
   exact ⟨rfl,hb⟩
  | some up =>
   have hv : roomV l p = match findV l up with | none => 72 | some x => if x.f1 = 1 then 0 else 73:=by unfold roomV; rw [hf,hq]; rfl
   rw [hv]
   rw [hq] at hP
   simp only [Option.getD_some,Option.isSome_some] at hP
   have h2:=fun W hb => hW up W hb
   clear hv hf hq
   cases hg : findV l up with
   | none =>
    rw [hg] at h2
    clear hg hW
    go_enter Tryz.func91,Tryz.ntmps91
    go_upto_region 4 with (go_at_call 92; refine h1.mono ?_; rintro e w1 ⟨rfl,hb⟩)
    go_upto_region 7 with (go_at_call 89; refine (hP _).mono ?_; rintro e w' ⟨rfl,rfl⟩)
    go_wp2_with (go_at_call 92; refine (h2 _ hb).mono ?_; rintro e w2 ⟨rfl,hb2⟩)
    go_ret
    exact ⟨rfl,hb.trans (hb2.mono hb.size)⟩
   | some x =>
    rw [hg] at h2
    have hx:=(has_find HS.out up).2 x hg
    have hlo : lowB l up < l.length:=hx.2
    obtain ⟨k,hk⟩ : ∃ k,lowB l up = k:=⟨_,rfl⟩
    rw [hk] at h2 hx hlo
    clear hg hW hk
    have hk0 : (0 : Int) ≤ (k : Int):=by omega
    have hk1 : (k : Int) < (l.length : Int):=by omega
    go_enter Tryz.func91,Tryz.ntmps91
    go_upto_region 4 with (go_at_call 92; refine h1.mono ?_; rintro e w1 ⟨rfl,hb⟩)
    go_upto_region 7 with (go_at_call 89; refine (hP _).mono ?_; rintro e w' ⟨rfl,rfl⟩)
    go_upto_region 10 with (go_at_call 92; refine (h2 _ hb).mono ?_; rintro e w2 ⟨rfl,hb2⟩)
    have hb3:=hb.trans (hb2.mono hb.size)
    obtain ⟨ad,X,y,rfl,rx,c0,c1,c2,c3⟩:=ent_at (Kd.C_below HR.out hb3) k hlo rfl
    rw [hx.1] at c0 c1 c2 c3
    by_cases h11 : x.f1 = 1
    ·have h12 : (x.f1 == 1) = true:=by simp [h11]
     go_wp2
     go_ret
     exact ⟨by simp [h11],hb3⟩
    ·have h12 : (x.f1 == 1) = false:=by simp [h11]
     go_wp2
     go_ret
     exact ⟨by simp [h11],hb3⟩
def kindsL : List Int:=[0,1,1,2,2,3,3,2,2,3,0]
def kindV (k : Int) : Int:=kindsL.getD k.toNat 0
def kindsV : Array Value:=#[.int .i64 0,.int .i64 1,.int .i64 1,.int .i64 2,.int .i64 2,.int .i64 3,.int .i64 3,.int .i64 2,.int .i64 2,.int .i64 3,.int .i64 0]
set_option maxRecDepth 100000 in
theorem kinds_calls (w : World) : Calls Tryz.prog 94 #[] w fun e w' => e = .returned (.agg kindsV) ∧ Below w.heap.size w w':=by
 go_enter Tryz.func94,Tryz.ntmps94
 go_wp2
 refine bodyPost_ret (v:=.agg kindsV) ?_ rfl ⟨rfl,?_⟩
 ·simp [results,Tryz.results94,go_sem,kindsV]
 ·exact (Below.refl _ w).alloc (Nat.le_refl _) _
def thereV (l : List S41) (q : ByteArray) (k : Int) : Int:=match findV l q with
 | none => 72
 | some x => if x.f1 = kindV k then 0 else 73
theorem cells7 {W : World} {g : Nat} {v0 v1 v2 v3 v4 v5 v6 : Value} (h : W.heap[g]? = some (.cells #[v0,v1,v2,v3,v4,v5,v6] 25 (0,0))) : W.cell? ⟨g,0,none⟩ = some v0 ∧ W.cell? ⟨g,1,none⟩ = some v1 ∧ W.cell? ⟨g,2,none⟩ = some v2 ∧ W.cell? ⟨g,3,none⟩ = some v3 ∧ W.cell? ⟨g,4,none⟩ = some v4 ∧ W.cell? ⟨g,5,none⟩ = some v5 ∧ W.cell? ⟨g,6,none⟩ = some v6 :=
 ⟨(blk_cell h 0).trans rfl,(blk_cell h 1).trans rfl,(blk_cell h 2).trans rfl,(blk_cell h 3).trans rfl,(blk_cell h 4).trans rfl,(blk_cell h 5).trans rfl,(blk_cell h 6).trans rfl⟩
set_option maxRecDepth 100000 in
theorem kind_row (k : Int) (h0 : 0 ≤ k) (h1 : k ≤ 10) : ∀ W,(Instr.index 86 (.agg kindsV) (.int .i64 k)).run Tryz.prog W = .ok (.int .i64 (kindV k)) W:=by
 intro W
 have h : k = 0 ∨ k = 1 ∨ k = 2 ∨ k = 3 ∨ k = 4 ∨ k = 5 ∨ k = 6 ∨ k = 7 ∨ k = 8 ∨ k = 9 ∨ k = 10:=by omega
 rcases h with rfl | rfl | rfl | rfl | rfl | rfl | rfl | rfl | rfl | rfl | rfl <;> rfl
set_option maxHeartbeats 4000000 in
set_option maxRecDepth 1000000 in
theorem there_at (l : List S41) (A : Option Addr) (c : Nat) (k : Int) (q : ByteArray) (v2 v3 v4 v5 v6 : Value) (w : World) (h2 : v2.oneCell' = true) (h3 : v3.oneCell' = true) (h4 : v4.oneCell' = true) (h5 : v5.oneCell' = true) (h6 : v6.oneCell' = true)
  (hr : Kd.C k41 w A l.length l) (hl : l.length ≤ 1000000000) (hs : Srt l) (hk0 : 0 ≤ k) (hk1 : k ≤ 10) :
  Calls Tryz.prog 95 #[.slice A l.length c,.agg #[.int .i64 k,.string q,v2,v3,v4,v5,v6]] w fun e w' => (∃ i : Nat,e = .returned (.tuple #[.int .i64 i,.int .i64 (thereV l q k)]) ∧ (thereV l q k = 0 → i = lowB l q)) ∧ Below w.heap.size w w':=by
 have hW:=fun W (hb : Below w.heap.size w W) => where_at l A c q W (Kd.C_below hr hb) hl hs
 have HR:=Aside0.mk hr
 have HS:=Aside0.mk hs
 have HB : Aside0 (Below w.heap.size w (w.alloc (.cells #[.int .i64 k,.string q,v2,v3,v4,v5,v6] 25))):=⟨below_alloc (Below.refl _ _) _⟩
 have HX : Aside0 ((w.alloc (.cells #[.int .i64 k,.string q,v2,v3,v4,v5,v6] 25)).heap[w.heap.size]? = some (.cells #[.int .i64 k,.string q,v2,v3,v4,v5,v6] 25 (0,0))):=⟨blk_new _ _⟩
 have h1:=hW _ HB.out
 clear hr hs hl hW
 cases hf : findV l q with
 | none =>
  have hv : thereV l q k = 72:=by unfold thereV; rw [hf]
  rw [hv]
  rw [hf] at h1
  clear hv hf
  go_enter Tryz.func95,Tryz.ntmps95
  go_wp2_with (go_at_call 92; refine h1.mono ?_; rintro e w1 ⟨rfl,hb⟩)
  go_ret2
  exact ⟨⟨0,rfl,fun h => by omega⟩,HB.out.trans (hb.mono HB.out.size)⟩
 | some x =>
  have hx:=(has_find HS.out q).2 x hf
  have hv : thereV l q k = if x.f1 = kindV k then 0 else 73:=by unfold thereV; rw [hf]
  rw [hv]
  rw [hf] at h1
  have hlo : lowB l q < l.length:=hx.2
  obtain ⟨j,hj⟩ : ∃ j,lowB l q = j:=⟨_,rfl⟩
  rw [hj] at h1 hx hlo
  rw [hj]
  have hj0 : (0 : Int) ≤ (j : Int):=by omega
  have hj1 : (j : Int) < (l.length : Int):=by omega
  obtain ⟨t,ht⟩ : ∃ t,kindV k = t:=⟨_,rfl⟩
  have hki:=kind_row k hk0 hk1
  rw [ht] at hki
  rw [ht]
  obtain ⟨r,hr⟩ : ∃ r : Int,(if x.f1 = t then 0 else 73) = r:=⟨_,rfl⟩
  rw [hr]
  replace hr:=Aside0.mk hr
  clear hv hf hj ht
  go_enter Tryz.func95,Tryz.ntmps95
  go_upto_region 4 with (go_at_call 92; refine h1.mono ?_; rintro e w1 ⟨rfl,hb⟩)
  have hB1:=Aside0.mk (HB.out.trans (hb.mono HB.out.size))
  have hX1:=Aside0.mk (blk_below HX.out hb)
  obtain ⟨ad,X,y,rfl,rx,c0,c1,c2,c3⟩:=ent_at (Kd.C_below HR.out hB1.out) j hlo rfl
  rw [hx.1] at c0 c1 c2 c3
  obtain ⟨b0,b1,b2,b3,b4,b5,b6⟩:=cells7 hX1.out
  have hC:=kinds_calls
  clear hb HB HX h1 c0 c2 c3 b1 b2 b3 b4 b5 b6
  by_cases h11 : x.f1 = t
  ·have h12 : (x.f1 == t) = true:=by simp [h11]
   go_wp2
   go_region_held3 (fun W => W.cell? ⟨(ad.add (j * 4)).block,(ad.add (j * 4)).off + 1,none⟩ = some (.int .i64 x.f1) ∧ W.cell? ⟨w.heap.size,0,none⟩ = some (.int .i64 k)) (first | exact ⟨c1,b0⟩ | exact ⟨pw_cell_below hb2 c1,pw_cell_below hb2 b0⟩) ((go_at_call 94; refine (hC _).mono ?_; rintro e w2 ⟨rfl,hb2⟩))
   all_goals
    go_wp2
    go_ret2
    exact ⟨⟨j,by rw [← hr.out,if_pos h11]; rfl,fun _ => rfl⟩,(below_drew hB1.out).trans (hb2.mono hB1.out.size)⟩
  ·have h12 : (x.f1 == t) = false:=by simp [h11]
   go_wp2
   go_region_held3 (fun W => W.cell? ⟨(ad.add (j * 4)).block,(ad.add (j * 4)).off + 1,none⟩ = some (.int .i64 x.f1) ∧ W.cell? ⟨w.heap.size,0,none⟩ = some (.int .i64 k)) (first | exact ⟨c1,b0⟩ | exact ⟨pw_cell_below hb2 c1,pw_cell_below hb2 b0⟩) ((go_at_call 94; refine (hC _).mono ?_; rintro e w2 ⟨rfl,hb2⟩))
   all_goals
    go_wp2
    go_ret2
    exact ⟨⟨0,by rw [← hr.out,if_neg h11]; rfl,fun h => by rw [← hr.out,if_neg h11] at h; omega⟩,(below_drew hB1.out).trans (hb2.mono hB1.out.size)⟩
def Rw (w : World) (x : S41) (cs : List Value) : Prop:=∃ (X : Option Addr) (c : Nat),cs = [.string x.f0,.int .i64 x.f1,.slice X x.f2.length c,.string x.f3] ∧ Re w x X c
def Row (w W : World) (v : Value) (xs : List S41) : Prop:=OwnRow (Rw w) 41 4 W w.heap.size v xs
theorem Row.below {w W W' : World} {v : Value} {xs : List S41} (h : Row w W v xs) (hb : Below W.heap.size W W') : Row w W' v xs:=OwnRow.below h hb
theorem Row.slice {w W : World} {v : Value} {xs : List S41} (h : Row w W v xs) : ∃ A c,v = .slice A xs.length c ∧ xs.length ≤ c:=OwnRow.slice_ h
theorem row_nil (w W : World) : Row w W (.slice none 0 0) []:=OwnRow.none_ _ _ _ _ _
theorem row_C {w W : World} {v : Value} {xs : List S41} (h : Row w W v xs) (hb : Below w.heap.size w W) : ∃ A c,v = .slice A xs.length c ∧ xs.length ≤ c ∧ Kd.C k41 W A xs.length xs:=by
 obtain ⟨A,c,rfl,hc,hr⟩:=OwnRow.reads h
 refine ⟨A,c,rfl,hc,ReadsRow.imp_ hr (Below.refl _ _) ?_⟩
 rintro p cl ⟨X,x,rfl,rx⟩
 exact k41_mk W p rx.l (Kd.C_below rx.g hb)
theorem rw_one {x : S41} {X : Option Addr} {c : Nat} : ∀ u ∈ ([.string x.f0,.int .i64 x.f1,.slice X x.f2.length c,.string x.f3] : List Value),u.oneCell' = true:=by
 intro u hu
 simp only [List.mem_cons,List.not_mem_nil,or_false] at hu
 rcases hu with rfl | rfl | rfl | rfl <;> rfl
theorem reps_one {w : World} {ps : List S41} {inner : List Value} (h : Reps (Rw w) 4 ps inner) : ∀ u ∈ inner,u.oneCell' = true:=by
 intro u hu
 obtain ⟨j,hj,rfl⟩:=List.getElem_of_mem hu
 have hl:=h.1
 have hq : j / 4 < ps.length:=by omega
 obtain ⟨X,c,he,rx⟩:=h.2 (j / 4) _ (List.getElem?_eq_getElem hq)
 have hm : inner[j] ∈ (inner.drop (j / 4 * 4)).take 4:=by
  refine List.mem_of_getElem? (i:=j % 4) ?_
  rw [List.getElem?_take_of_lt (by omega),List.getElem?_drop,show j / 4 * 4 + j % 4 = j by omega]
  exact List.getElem?_eq_getElem hj
 rw [he] at hm
 exact rw_one _ hm
theorem rows_rw {w W : World} {A : Option Addr} {n : Nat} {xs : List S41} (h : Kd.C k41 w A n xs) (hb : Below w.heap.size w W) : ReadsRow (Rw w) 4 W A n xs:=by
 refine ReadsRow.imp_ h hb ?_
 intro p c hk
 obtain ⟨X,x,rfl,l,g⟩:=k41_open hk
 exact ⟨X,x,rfl,⟨l,g⟩⟩
set_option maxHeartbeats 4000000 in
set_option maxRecDepth 100000 in
theorem clone_at (w : World) (l : List S41) (A : Option Addr) (c : Nat) (W : World) (hB : Below w.heap.size w W) (hn : l.length ≤ 1000000000) (h : ReadsRow (Rw w) 4 W A l.length l) :
  Calls Tryz.prog 73 #[.slice A l.length c] W fun e W' => ∃ v,e = .returned v ∧ Row w W' v l ∧ Below w.heap.size w W' ∧ (∀ g,v.ownBlock = some g → W.heap.size ≤ g):=by
 have q22 : ∀ (w : World) (a : Option Addr) (n c n' c' : Nat),(binOp .eql 22 (.slice a n c) (.slice none n' c')).run Tryz.prog w = .ok (.bool a.isNone) w:=fun w a n c n' c' => Go.Lib.run_eql_slice_nil w _ _ a n c n' c' Tryz.underlying22
 cases A with
 | none =>
  have hl : Aside0 (l = []):=⟨List.eq_nil_of_length_eq_zero (by
   rcases Nat.eq_zero_or_pos l.length with h0 | h0
   ·exact h0
   ·obtain ⟨ad,he,_⟩:=h.2.2 h0
    cases he)⟩
  have hB':=Aside0.mk hB
  clear h hB
  go_enter Tryz.func73,Tryz.ntmps73
  go_wp2
  go_ret
  exact ⟨_,rfl,by rw [hl.out]; exact row_nil _ _,hB'.out,by intro g hg; simp [Value.ownBlock] at hg⟩
 | some ad =>
  obtain ⟨inner,hr,hc⟩:=h.inner_
  have hr':=Aside0.mk hr
  have hc':=Aside0.mk hc
  have h1:=Aside0.mk (reps_one hr)
  have hB':=Aside0.mk hB
  have hsz:=Aside0.mk hB.size
  have hn1 : Aside0 (0 + l.length ≤ maxLen):=⟨by unfold maxLen; omega⟩
  have hn2 : Aside0 ((0 + l.length) * 64 ≤ 140737488355328):=⟨by rw [Nat.zero_add]; exact Nat.le_trans (Nat.mul_le_mul_right 64 hn) (by decide)⟩
  have hl:=Aside0.mk hr.1
  clear h hr hc hB hn
  obtain ⟨i0,hi,hz0,hz1,hz2⟩:=info_parts info41
  have hi':=Aside0.mk hi
  have hz0':=Aside0.mk hz0
  have hz1':=Aside0.mk hz1
  have hz2':=Aside0.mk hz2
  clear hi hz0 hz1 hz2
  go_enter Tryz.func73,Tryz.ntmps73
  go_wp2_with (at_builtin; refine wpList_append_own_at _ rfl _ _ 22 rfl w.heap.size 41 i0 _ 4 64 Tryz.underlying22 hi'.out hz0'.out hz1'.out hz2'.out rfl (by omega) _ _ _ rfl (World.ownsRow_made W #[] 0 hsz.out (Nat.zero_le _) (by simp)) ad l.length c inner rfl hl.out ?qc2 h1.out hn1.out hn2.out ?qc6 ?_)
  case qc2 =>
   intro j u hj
   exact Lib.cell?_alloc_some _ (hc'.out j u hj)
  case qc6 => have:=hsz.out; simp; omega
  intro v' w1 hown hgrow hnil hblk
  go_wp2
  go_ret
  refine ⟨v',rfl,⟨inner,by simpa using hown,hr'.out⟩,?_,?_⟩
  ·exact (below_alloc hB'.out _).grown hgrow (by have:=hsz.out; simp; omega) (by intro k hk; simp [Value.ownBlock] at hk; have:=hsz.out; omega)
  ·intro g hg
   rcases hblk with hk | hk
   ·rw [hk] at hg; simp [Value.ownBlock] at hg; omega
   ·rw [hk] at hg; simp at hg; omega
open Go.Proofs.YthhohbidjhcjeaaGreatDoor.Q Go.Proofs.YthhohbidjhcjeaaGreatDoor.Pl
theorem within_calls (a b : ByteArray) (w : World) : Calls Tryz.prog 98 #[.string a,.string b] w fun e w' => e = .returned (.bool (withinB a b)) ∧ Below w.heap.size w w' :=
 (path_Within.calls a b _ w (within_f a b)).mono (fun e w' ⟨he,n,hw⟩ => ⟨he,by rw [hw]; exact pw_below_drewN (Below.refl _ _) n⟩)
def insideB (x q : ByteArray) : Bool:=if x = q then false else withinB x q
theorem inside_calls (x q : ByteArray) (x1 x2 x3 : Value) (g : Nat) (v0 v2 v3 v4 v5 v6 : Value) (h1 : x1.oneCell' = true) (h2 : x2.oneCell' = true) (h3 : x3.oneCell' = true) (W : World)
  (hx : W.heap[g]? = some (.cells #[v0,.string q,v2,v3,v4,v5,v6] 25 (0,0))) :
  Calls Tryz.prog 97 #[.agg #[.string x,x1,x2,x3],.pointer (some ⟨g,0,none⟩)] W fun e W' => e = .returned (.bool (insideB x q)) ∧ Below W.heap.size W W':=by
 have hB : Aside0 (Below W.heap.size W (W.alloc (.cells #[.string x,x1,x2,x3] 41))):=⟨below_alloc (Below.refl _ _) _⟩
 obtain ⟨-,b1,-,-,-,-,-⟩:=cells7 (blk_below hx hB.out)
 have hC:=fun W => within_calls x q W
 clear hx
 by_cases he : x = q
 ·subst he
  have hv : insideB x x = false:=by unfold insideB; rw [if_pos rfl]
  rw [hv]
  clear hv
  go_enter Tryz.func97,Tryz.ntmps97
  go_wp2
  go_ret
  exact ⟨rfl,hB.out⟩
 ·have hv : insideB x q = withinB x q:=by unfold insideB; rw [if_neg he]
  rw [hv]
  obtain ⟨r,hr⟩ : ∃ r,withinB x q = r:=⟨_,rfl⟩
  rw [hr] at hC
  rw [hr]
  have hne : (x.toList != q.toList) = true:=by
   rw [bne_iff_ne]
   exact fun h => he (toList_inj h)
  have hne2 : (x.toList == q.toList) = false:=by
   rw [beq_eq_false_iff_ne]
   exact fun h => he (toList_inj h)
  clear hv hr
  go_enter Tryz.func97,Tryz.ntmps97
  go_wp2_with (go_at_call 98; refine (hC _).mono ?_; rintro e w' ⟨rfl,hb⟩)
  go_ret
  exact ⟨rfl,hB.out.trans (hb.mono hB.out.size)⟩
theorem getD_get {l : List S41} {i : Nat} (h : i < l.length) : l.getD i z41 = l[i]:=by simp [List.getD,List.getElem?_eq_getElem h]
theorem any_take_succ (f : S41 → Bool) (l : List S41) (j : Nat) (h : j < l.length) : (l.take (j + 1)).any f = ((l.take j).any f || f (l.getD j z41)):=by
 rw [List.take_add_one,List.any_append,List.getElem?_eq_getElem h,getD_get h]
 simp
set_option maxHeartbeats 4000000 in
set_option maxRecDepth 1000000 in
theorem index_at (l : List S41) (A : Option Addr) (c : Nat) (q : ByteArray) (g : Nat) (v0 v2 v3 v4 v5 v6 : Value) (w : World) (hr : Kd.C k41 w A l.length l) (hl : l.length ≤ 1000000000)
  (hx : w.heap[g]? = some (.cells #[v0,.string q,v2,v3,v4,v5,v6] 25 (0,0))) :
  Calls Tryz.prog 133 #[.slice A l.length c,.func (.func 97) #[] #[.pointer (some ⟨g,0,none⟩)]] w fun e w' => (∃ i : Int,e = .returned (.int .i64 i) ∧ decide (0 ≤ i) = l.any (fun x => insideB x.f0 q)) ∧ Below w.heap.size w w':=by
 have eg : ∀ args w,(callFunc 97 args).run Tryz.prog w = .ok (.enter 97 args) w:=enters_of Tryz.func97 (by kernel_rfl) rfl
 have HR:=Aside0.mk hr
 have HX:=Aside0.mk hx
 have HL:=Aside0.mk hl
 have B0:=Aside0.mk (Below.refl w.heap.size w)
 clear hr hx
 obtain ⟨f,hf⟩ : ∃ f : S41 → Bool,f = fun x => insideB x.f0 q:=⟨_,rfl⟩
 rw [← hf]
 replace hf:=Aside0.mk hf
 go_enter Tryz.func133,Tryz.ntmps133
 go_wp2
 go_loopg [8] l.length (fun kx s8 wr => ∃ j : Nat,s8 = .int .i64 j ∧ j + kx = l.length ∧ Aside0 (Below w.heap.size w wr) ∧ Aside0 ((l.take j).any f = false))
 case atStart => exact ⟨0,rfl,by omega,B0,⟨by simp⟩⟩
 case round =>
  clear B0
  obtain ⟨j,rfl,hj,B1,hn⟩:=hrel
  by_cases hlt : j < l.length
  ·obtain ⟨ad,X,x,rfl,rx,c0,c1,c2,c3⟩:=ent_at (Kd.C_below HR.out B1.out) j hlt rfl
   have hs:=any_take_succ f l j hlt
   rw [hn.out,Bool.false_or] at hs
   have hfx : f (l.getD j z41) = insideB (l.getD j z41).f0 q:=by rw [hf.out]
   generalize hy : l.getD j z41 = y at rx c0 c1 c2 c3 hs hfx
   have hc:=inside_calls y.f0 q (.int .i64 y.f1) (.slice X y.f2.length x) (.string y.f3) g v0 v2 v3 v4 v5 v6 rfl rfl rfl wr ((B1.out.block g (blk_lt HX.out)).trans HX.out)
   have RX:=Aside0.mk rx
   have hj0 : (0 : Int) ≤ (j : Int):=by omega
   have hj1 : (j : Int) < (l.length : Int):=by omega
   replace hs:=Aside0.mk hs
   clear rx hy
   rw [← hfx] at hc
   obtain ⟨r,hfr⟩ : ∃ r,f y = r:=⟨_,rfl⟩
   rw [hfr] at hc
   replace hfr:=Aside0.mk hfr
   clear hfx
   cases r with
   | true =>
    go_wp2_with (go_at_fn 97; refine hc.mono ?_; rintro e w' ⟨rfl,hb⟩)
    go_ret
    exact ⟨⟨j,rfl,by
     have h1 : l.any f = true:=by
      rw [← List.take_append_drop (j + 1) l,List.any_append,hs.out,hfr.out]; rfl
     rw [h1]; simp⟩,B1.out.trans (hb.mono B1.out.size)⟩
   | false =>
    have hwr : IntKind.i64.wrap ((j : Int) + 1) = (((j + 1 : Nat)) : Int):=by rw [show ((j : Int) + 1) = ((j + 1 : Nat) : Int) by omega]; exact wrap_small _ (by omega) (by have:=HL.out; omega)
    go_wp2_with (go_at_fn 97; refine hc.mono ?_; rintro e w' ⟨rfl,hb⟩)
    go_roundg (l.length - (j + 1))
    case measure => omega
    case rel => exact ⟨j + 1,by first | rfl | (rw [hwr]),by omega,⟨B1.out.trans (hb.mono B1.out.size)⟩,⟨by rw [hs.out,hfr.out]⟩⟩
  ·have hje : j = l.length:=by omega
   have hnb : decide ((j : Int) < (l.length : Int)) = false:=decide_eq_false (by omega)
   have h1 : l.any f = false:=by rw [← hn.out,List.take_of_length_le (by omega)]
   go_wp2
   go_ret
   exact ⟨⟨-1,rfl,by rw [h1]; rfl⟩,B1.out⟩
theorem contains_at (l : List S41) (A : Option Addr) (c : Nat) (q : ByteArray) (g : Nat) (v0 v2 v3 v4 v5 v6 : Value) (w : World) (hr : Kd.C k41 w A l.length l) (hl : l.length ≤ 1000000000)
  (hx : w.heap[g]? = some (.cells #[v0,.string q,v2,v3,v4,v5,v6] 25 (0,0))) :
  Calls Tryz.prog 96 #[.slice A l.length c,.func (.func 97) #[] #[.pointer (some ⟨g,0,none⟩)]] w fun e w' => e = .returned (.bool (l.any (fun x => insideB x.f0 q))) ∧ Below w.heap.size w w':=by
 have hC:=index_at l A c q g v0 v2 v3 v4 v5 v6 w hr hl hx
 obtain ⟨r,hrr⟩ : ∃ r,l.any (fun x => insideB x.f0 q) = r:=⟨_,rfl⟩
 rw [hrr] at hC ⊢
 clear hr hl hx hrr
 go_enter Tryz.func96,Tryz.ntmps96
 go_wp2_with (go_at_call 133; refine hC.mono ?_; rintro e w' ⟨⟨i,rfl,hi⟩,hb⟩)
 go_ret
 exact ⟨by first | rfl | (rw [← hi]) | (simp [← hi]),hb⟩
end Go.Proofs.YthhohbidjhcjeaaGreatDoor.H
namespace Go.Proofs.YthhohbidjhcjeaaGreatDoor.Q
open Go.RowKit Go.Proofs.YthhohbidjhcjeaaGreatDoorW.PrintWords Go.Proofs.YthhohbidjhcjeaaGreatDoorW.PrintLast Go.Proofs.YthhohbidjhcjeaaGreatDoorW.PrintMore
attribute [local go_sem] max2_int min2_int max_two min_two max_three min_three max_four min_four   -- for this text's walks alone
set_option linter.unusedVariables false
set_option linter.unusedSimpArgs false

def bytealg_LastIndexByteString.l0 : Nat → ByteArray → Int → Int → Option (Int)
 | 0,_,_,_ => none
 | k + 1,x0,x1,x5 => if x5 ≥ 0 then (if 0 ≤ x5 then (if x5 < (x0.size : Int) then (if (bt x0 x5) = x1 then (some x5) else (bytealg_LastIndexByteString.l0 k x0 x1 (wrap64 (x5 - 1)))) else (none)) else (none)) else (some (-1))
def bytealg_LastIndexByteString.f (k : Nat) (a0 : ByteArray) (a1 : Int) : Option (Int):=bytealg_LastIndexByteString.l0 k a0 a1 (wrap64 ((a0.size : Int) - 1))
theorem bytealg_LastIndexByteString.mono_l : ∀ k,(∀ y0 y1 y2,LeO (bytealg_LastIndexByteString.l0 k y0 y1 y2) (bytealg_LastIndexByteString.l0 (k + 1) y0 y1 y2))
 | 0 => fun _ _ _ r h => by simp [bytealg_LastIndexByteString.l0] at h
 | k + 1 => by
  have ih0:=bytealg_LastIndexByteString.mono_l k
  ·intro y0 y1 y2
   unfold bytealg_LastIndexByteString.l0
   repeat' first
   | (with_reducible exact ih0 _ _ _)
   | (with_reducible exact LeO.refl _)
   | (with_reducible exact LeO.none _)
   | (with_reducible refine LeO.ite ?_ ?_)
   | (with_reducible refine LeO.bind ?_ (fun _ => ?_))
   | exact ih0 _ _ _
   | exact LeO.none _
   | refine LeO.ite ?_ ?_
   | refine LeO.bind ?_ (fun _ => ?_)
theorem bytealg_LastIndexByteString.mono : ∀ a0 a1 k,LeO (bytealg_LastIndexByteString.f k a0 a1) (bytealg_LastIndexByteString.f (k + 1) a0 a1):=by
 intro a0 a1 k
 have ih0:=bytealg_LastIndexByteString.mono_l k
 unfold bytealg_LastIndexByteString.f
 repeat' first
   | (with_reducible exact ih0 _ _ _)
   | (with_reducible exact LeO.refl _)
   | (with_reducible exact LeO.none _)
   | (with_reducible refine LeO.ite ?_ ?_)
   | (with_reducible refine LeO.bind ?_ (fun _ => ?_))
   | exact ih0 _ _ _
   | exact LeO.none _
   | refine LeO.ite ?_ ?_
   | refine LeO.bind ?_ (fun _ => ?_)
set_option maxHeartbeats 8000000 in
set_option maxRecDepth 100000 in
theorem bytealg_LastIndexByteString.calls (k : Nat) (a0 : ByteArray) (a1 : Int) (r : Int) (w : World) (h : bytealg_LastIndexByteString.f k a0 a1 = some r) :
  Calls Tryz.prog 157 #[.string a0,.int .u8 a1] w fun e w' => e = .returned (.int .i64 r) ∧ Drawn0 w w':=by
 have H : (bytealg_LastIndexByteString.l0 k a0 a1 (wrap64 ((a0.size : Int) - 1))) = some r:=h
 clear h
 have H':=Aside0.mk H
 clear H
 go_enter Tryz.func157,Tryz.ntmps157
 go_wp2
 go_loopg [5] k (fun kq v5 w' => ∃ (x5_1 : Int),v5 = .int .i64 x5_1 ∧ Aside0 (bytealg_LastIndexByteString.l0 kq a0 a1 x5_1 = some r) ∧ Aside0 (kq ≤ k) ∧ Drawn0 w w')
 case atStart => exact ⟨(wrap64 ((a0.size : Int) - 1)),(by first | rfl | (simp; done) | (simp [*]; done)),H',⟨Nat.le_refl _⟩,by repeat (first | exact Drawn0.refl _ | apply Drawn0.step)⟩
 case round =>
  clear H'
  try clear c1
  try clear p2
  obtain ⟨x5_1,rfl,HA,HK1,⟨m1,rfl⟩⟩:=hrel
  cases gk with
  | zero => exact absurd HA.out (by simp [bytealg_LastIndexByteString.l0])
  | succ k1 =>
   have H:=HA.out
   clear HA
   simp only [bytealg_LastIndexByteString.l0] at H
   by_cases c3 : x5_1 ≥ 0
   ·rw [if_pos c3] at H
    have c3b0 : decide (0 ≤ x5_1) = true:=decide_eq_true c3
    clear c3
    by_cases c4 : 0 ≤ x5_1
    ·rw [if_pos c4] at H
     have c4b0 : decide (0 ≤ x5_1) = true:=decide_eq_true c4
     clear c4
     by_cases c5 : x5_1 < (a0.size : Int)
     ·rw [if_pos c5] at H
      have c5b0 : decide (x5_1 < (a0.size : Int)) = true:=decide_eq_true c5
      clear c5
      by_cases c7 : (bt a0 x5_1) = a1
      ·rw [if_pos c7] at H
       have c7b0 : ((bt a0 x5_1) == a1) = true:=beq_iff_eq.mpr c7
       have c7b1 : ((bt a0 x5_1) != a1) = false:=bne_eq_false_iff_eq.mpr c7
       clear c7
       obtain rfl:=Option.some.inj H
       have p6 : 0 ≤ (x5_1 : Int):=of_decide_eq_true (by first | (with_reducible assumption) | assumption)
       have q6 : x5_1 < (a0.size : Int):=of_decide_eq_true (by first | (with_reducible assumption) | assumption)
       have hx6:=bt_at a0 x5_1
       replace p6:=eq_true p6
       replace q6:=eq_true q6
       go_wp2
       go_ret
       exact ⟨by first | rfl | (simp; done) | (simp [*]; done) | (simp [show ∀ l : List UInt8,(l != []) = !l.isEmpty from fun l => by cases l <;> rfl]; done),by repeat (first | exact Drawn0.refl _ | apply Drawn0.step)⟩
      ·rw [if_neg c7] at H
       have c7b0 : ((bt a0 x5_1) == a1) = false:=beq_eq_false_iff_ne.mpr c7
       have c7b1 : ((bt a0 x5_1) != a1) = true:=bne_iff_ne.mpr c7
       have H':=Aside0.mk H
       clear H
       have p6 : 0 ≤ (x5_1 : Int):=of_decide_eq_true (by first | (with_reducible assumption) | assumption)
       have q6 : x5_1 < (a0.size : Int):=of_decide_eq_true (by first | (with_reducible assumption) | assumption)
       have hx6:=bt_at a0 x5_1
       replace p6:=eq_true p6
       replace q6:=eq_true q6
       go_wp2
       go_roundg k1
       case measure => have:=HK1.out; omega
       case rel => exact ⟨(wrap64 (x5_1 - 1)),(by first | rfl | (simp; done) | (simp [*]; done)),H',⟨by have:=HK1.out; omega⟩,by repeat (first | exact Drawn0.refl _ | apply Drawn0.step)⟩
     ·rw [if_neg c5] at H
      exact absurd H (by simp)
    ·rw [if_neg c4] at H
     exact absurd H (by simp)
   ·rw [if_neg c3] at H
    have c3b0 : decide (0 ≤ x5_1) = false:=decide_eq_false c3
    clear c3
    obtain rfl:=Option.some.inj H
    go_wp2
    go_ret
    exact ⟨by first | rfl | (simp; done) | (simp [*]; done) | (simp [show ∀ l : List UInt8,(l != []) = !l.isEmpty from fun l => by cases l <;> rfl]; done),by repeat (first | exact Drawn0.refl _ | apply Drawn0.step)⟩

def strings_LastIndexByte.f (k : Nat) (a0 : ByteArray) (a1 : Int) : Option (Int):=(bytealg_LastIndexByteString.f k a0 a1).bind fun t117 => (some t117)
theorem strings_LastIndexByte.mono : ∀ a0 a1 k,LeO (strings_LastIndexByte.f k a0 a1) (strings_LastIndexByte.f (k + 1) a0 a1):=by
 intro a0 a1 k
 unfold strings_LastIndexByte.f
 repeat' first
   | (with_reducible exact bytealg_LastIndexByteString.mono _ _ _)
   | (with_reducible exact LeO.refl _)
   | (with_reducible exact LeO.none _)
   | (with_reducible refine LeO.ite ?_ ?_)
   | (with_reducible refine LeO.bind ?_ (fun _ => ?_))
   | exact bytealg_LastIndexByteString.mono _ _ _
   | exact LeO.none _
   | refine LeO.ite ?_ ?_
   | refine LeO.bind ?_ (fun _ => ?_)
set_option maxHeartbeats 8000000 in
set_option maxRecDepth 100000 in
theorem strings_LastIndexByte.calls (k : Nat) (a0 : ByteArray) (a1 : Int) (r : Int) (w : World) (h : strings_LastIndexByte.f k a0 a1 = some r) :
  Calls Tryz.prog 129 #[.string a0,.int .u8 a1] w fun e w' => e = .returned (.int .i64 r) ∧ Drawn0 w w':=by
 have H : ((bytealg_LastIndexByteString.f k a0 a1).bind fun t117 => (some t117)) = some r:=h
 clear h
 replace H:=Option.bind_eq_some_iff.mp H
 obtain ⟨t117,A30,H⟩:=H
 replace H : (some t117) = some r:=H
 have A3:=Aside0.mk A30
 clear A30
 obtain rfl:=Option.some.inj H
 go_enter Tryz.func129,Tryz.ntmps129
 go_wp2_with (first | ((with_reducible refine gate_callee (f:=157) rfl ?_); refine goesL_ (some 7) rfl rfl Tryz.func157 (by kernel_rfl) rfl #[.string a0,.int .u8 a1] rfl (by (try simp only [List.map_toArray,List.map_cons,List.map_nil]); first | done | rfl | (simp only [List.length_drop,List.length_take]; rfl)) ?_; (with_reducible refine (bytealg_LastIndexByteString.calls k a0 a1 t117 _ A3.out).mono ?_); rintro e w' ⟨rfl,⟨nd,rfl⟩⟩; refine ⟨_,rfl,?_⟩))
 go_ret
 exact ⟨by first | rfl | (simp; done) | (simp [*]; done) | (simp [show ∀ l : List UInt8,(l != []) = !l.isEmpty from fun l => by cases l <;> rfl]; done),by repeat (first | exact Drawn0.refl _ | apply Drawn0.step)⟩

mutual
def tree_thing.j0 : Nat → Bool → ByteArray → Int → List ByteArray → ByteArray → Option (Bool)
 | 0,_,_,_,_,_ => none
 | k + 1,x3,x120000,x120001,x120002,x120003 => if x3 = true then (some false) else (if x120001 = 2 then (tree_thing.j1 k false x120000 x120001 x120002 x120003) else (tree_thing.j1 k (decide ((x120002.length : Int) > 0)) x120000 x120001 x120002 x120003))
def tree_thing.j1 : Nat → Bool → ByteArray → Int → List ByteArray → ByteArray → Option (Bool)
 | 0,_,_,_,_,_ => none
 | k + 1,x18,x120000,x120001,x120002,x120003 => if x18 = true then (some false) else (if x120001 = 3 then (some true) else (if x120003.toList = ([] : List UInt8) then (some true) else (some false)))
end
def tree_thing.f (k : Nat) (a0_0 : ByteArray) (a0_1 : Int) (l0_2 : List ByteArray) (a0_3 : ByteArray) : Option (Bool):=(path_Right.f a0_0).bind fun t120 => (if t120 = true then (if a0_1 < 1 then (tree_thing.j0 k (decide (a0_1 < 1)) a0_0 a0_1 l0_2 a0_3) else (if a0_1 > 3 then (tree_thing.j0 k (decide (a0_1 > 3)) a0_0 a0_1 l0_2 a0_3) else ((lines_Right.f l0_2).bind fun t121 => (tree_thing.j0 k (!t121) a0_0 a0_1 l0_2 a0_3)))) else (tree_thing.j0 k (!t120) a0_0 a0_1 l0_2 a0_3))
theorem tree_thing.mono_l : ∀ k,(∀ y0 y1 y2 y3 y4,LeO (tree_thing.j0 k y0 y1 y2 y3 y4) (tree_thing.j0 (k + 1) y0 y1 y2 y3 y4)) ∧ (∀ y0 y1 y2 y3 y4,LeO (tree_thing.j1 k y0 y1 y2 y3 y4) (tree_thing.j1 (k + 1) y0 y1 y2 y3 y4))
 | 0 => ⟨fun _ _ _ _ _ r h => by simp [tree_thing.j0] at h,fun _ _ _ _ _ r h => by simp [tree_thing.j1] at h⟩
 | k + 1 => by
  obtain ⟨ih0,ih1⟩:=tree_thing.mono_l k
  refine ⟨?_,?_⟩
  ·intro y0 y1 y2 y3 y4
   unfold tree_thing.j0
   repeat' first
   | (with_reducible exact ih0 _ _ _ _ _)
   | (with_reducible exact ih1 _ _ _ _ _)
   | (with_reducible exact LeO.refl _)
   | (with_reducible exact LeO.none _)
   | (with_reducible refine LeO.ite ?_ ?_)
   | (with_reducible refine LeO.bind ?_ (fun _ => ?_))
   | exact ih0 _ _ _ _ _
   | exact ih1 _ _ _ _ _
   | exact LeO.none _
   | refine LeO.ite ?_ ?_
   | refine LeO.bind ?_ (fun _ => ?_)
  ·intro y0 y1 y2 y3 y4
   unfold tree_thing.j1
   repeat' first
   | (with_reducible exact ih0 _ _ _ _ _)
   | (with_reducible exact ih1 _ _ _ _ _)
   | (with_reducible exact LeO.refl _)
   | (with_reducible exact LeO.none _)
   | (with_reducible refine LeO.ite ?_ ?_)
   | (with_reducible refine LeO.bind ?_ (fun _ => ?_))
   | exact ih0 _ _ _ _ _
   | exact ih1 _ _ _ _ _
   | exact LeO.none _
   | refine LeO.ite ?_ ?_
   | refine LeO.bind ?_ (fun _ => ?_)
theorem tree_thing.mono : ∀ a0 a1 a2 a3 k,LeO (tree_thing.f k a0 a1 a2 a3) (tree_thing.f (k + 1) a0 a1 a2 a3):=by
 intro a0 a1 a2 a3 k
 obtain ⟨ih0,ih1⟩:=tree_thing.mono_l k
 unfold tree_thing.f
 repeat' first
   | (with_reducible exact ih0 _ _ _ _ _)
   | (with_reducible exact ih1 _ _ _ _ _)
   | (with_reducible exact LeO.refl _)
   | (with_reducible exact LeO.none _)
   | (with_reducible refine LeO.ite ?_ ?_)
   | (with_reducible refine LeO.bind ?_ (fun _ => ?_))
   | exact ih0 _ _ _ _ _
   | exact ih1 _ _ _ _ _
   | exact LeO.none _
   | refine LeO.ite ?_ ?_
   | refine LeO.bind ?_ (fun _ => ?_)
set_option maxHeartbeats 8000000 in
set_option maxRecDepth 100000 in
theorem tree_thing.calls (k : Nat) (a0_0 : ByteArray) (a0_1 : Int) (A0_2 : Option Addr) (c0_2 : Nat) (l0_2 : List ByteArray) (a0_3 : ByteArray) (r : Bool) (w : World) (hr0_2 : Kd.C Kd.string w A0_2 l0_2.length l0_2) (hc0_2 : l0_2.length ≤ c0_2) (h : tree_thing.f k a0_0 a0_1 l0_2 a0_3 = some r) :
  Calls Tryz.prog 90 #[.agg #[.string a0_0,.int .i64 a0_1,.slice A0_2 l0_2.length c0_2,.string a0_3]] w fun e w' => e = .returned (.bool r) ∧ Below w.heap.size w w':=by
 have hu41:=Tryz.underlying41
 have HR0_2:=Aside0.mk hr0_2
 have HC0_2:=Aside0.mk hc0_2
 clear hr0_2 hc0_2
 have HB:=Aside0.mk (Below.refl w.heap.size w)
 have H : ((path_Right.f a0_0).bind fun t120 => (if t120 = true then (if a0_1 < 1 then (tree_thing.j0 k (decide (a0_1 < 1)) a0_0 a0_1 l0_2 a0_3) else (if a0_1 > 3 then (tree_thing.j0 k (decide (a0_1 > 3)) a0_0 a0_1 l0_2 a0_3) else ((lines_Right.f l0_2).bind fun t121 => (tree_thing.j0 k (!t121) a0_0 a0_1 l0_2 a0_3)))) else (tree_thing.j0 k (!t120) a0_0 a0_1 l0_2 a0_3))) = some r:=h
 clear h
 replace H:=Option.bind_eq_some_iff.mp H
 obtain ⟨t120,A20,H⟩:=H
 replace H : (if t120 = true then (if a0_1 < 1 then (tree_thing.j0 k (decide (a0_1 < 1)) a0_0 a0_1 l0_2 a0_3) else (if a0_1 > 3 then (tree_thing.j0 k (decide (a0_1 > 3)) a0_0 a0_1 l0_2 a0_3) else ((lines_Right.f l0_2).bind fun t121 => (tree_thing.j0 k (!t121) a0_0 a0_1 l0_2 a0_3)))) else (tree_thing.j0 k (!t120) a0_0 a0_1 l0_2 a0_3)) = some r:=H
 have A2:=Aside0.mk A20
 clear A20
 have HC3:=Aside0.mk H
 clear H
 go_enter Tryz.func90,Tryz.ntmps90
 go_upto_if 3 with (first | ((with_reducible refine gate_dst (N:=1) rfl ?_); (try (refine gate_guard (by rfl) ?_; dsimp only)); refine box_event ?hg (N:=1) ?hd (cs:=#[.string a0_0,.int .i64 a0_1,.slice A0_2 l0_2.length c0_2,.string a0_3]) (t:=41) ?hr ?_; (case hd => rfl); (case hg => rfl); (case hr => first | (go_simp; done) | (go_simp; rfl)); intro gb119 hg w4 hbox hb; have n0_:=Aside0.mk (below_step (by repeat (first | (with_reducible first | exact HB.out | apply below_alloc | apply pw_below_drewN | apply below_drew1) | exact HB.out)) hb); have n1_:=Aside0.mk (hbox); have n2_:=Aside0.mk ((by rw [hg]; exact (below_size (by repeat (first | (with_reducible first | exact HB.out | apply below_alloc | apply pw_below_drewN | apply below_drew1) | exact HB.out))) : w.heap.size ≤ gb119)); have n3_:=Aside0.mk ((by rw [hg]; exact (below_size (by repeat (first | (with_reducible first | exact HB.out | apply below_alloc | apply pw_below_drewN | apply below_drew1) | exact HB.out))) : w.heap.size ≤ gb119)); clear HB; have HB:=n0_; have BK119:=n1_; have GW119:=n2_; have GE119:=n3_; clear n0_ n1_ n2_ n3_; clear hb hbox hg; have hcz5_0 : w4.cell? ⟨gb119,0,none⟩ = some (.string a0_0):=(blk_cell BK119.out 0).trans rfl; have hcz5_1 : w4.cell? ⟨gb119,1,none⟩ = some (.int .i64 a0_1):=(blk_cell BK119.out 1).trans rfl; have hcz5_2 : w4.cell? ⟨gb119,2,none⟩ = some (.slice A0_2 l0_2.length c0_2):=(blk_cell BK119.out 2).trans rfl; have hcz5_3 : w4.cell? ⟨gb119,3,none⟩ = some (.string a0_3):=(blk_cell BK119.out 3).trans rfl; have hfz5_0:=blk_frozen BK119.out 0; have hfz5_1:=blk_frozen BK119.out 1; have hfz5_2:=blk_frozen BK119.out 2; have hfz5_3:=blk_frozen BK119.out 3) | ((with_reducible refine gate_callee (f:=66) rfl ?_); refine goesL_ (some 6) rfl rfl Tryz.func66 (by kernel_rfl) rfl #[.string a0_0] rfl (by (try simp only [List.map_toArray,List.map_cons,List.map_nil]); first | done | rfl | (simp only [List.length_drop,List.length_take]; rfl)) ?_; (with_reducible refine (path_Right.calls a0_0 t120 _ A2.out).mono ?_); rintro e w6 ⟨rfl,hb⟩; refine ⟨_,rfl,?_⟩; have n0_:=Aside0.mk (blk_below (g:=gb119) (o:=.cells #[.string a0_0,.int .i64 a0_1,.slice A0_2 l0_2.length c0_2,.string a0_3] 41 (0,0)) (by (with_reducible repeat (first | refine blk_drewN ?_ _ | refine blk_drew ?_ | refine blk_alloc ?_ _)); exact BK119.out) hb); have n1_:=Aside0.mk (below_step (by repeat (first | (with_reducible first | exact HB.out | apply below_alloc | apply pw_below_drewN | apply below_drew1 | refine below_set ?_ GE119.out) | exact HB.out)) hb); clear BK119; clear HB; have BK119:=n0_; have HB:=n1_; clear n0_ n1_; (try clear hb); (try clear hb2); (try clear hk); (try clear hi)))
 (try simp only [Act.put,List.setIfInBounds_toArray,List.set_cons_zero,List.set_cons_succ])
 go_cut [3] (fun v3 wc => ∃ (kq : Nat) (x3_2 : Bool),v3 = .bool x3_2 ∧ Aside0 (tree_thing.j0 kq x3_2 a0_0 a0_1 l0_2 a0_3 = some r) ∧ Aside0 (kq ≤ k) ∧ Aside0 (wc.heap[gb119]? = some (.cells #[.string a0_0,.int .i64 a0_1,(.slice A0_2 l0_2.length c0_2),.string a0_3] 41 (0,0))) ∧ Aside0 (Below w.heap.size w wc))
 case first =>
  have H:=HC3.out
  clear HC3
  by_cases c7 : t120 = true
  ·subst c7
   have H1 : (if a0_1 < 1 then (tree_thing.j0 k (decide (a0_1 < 1)) a0_0 a0_1 l0_2 a0_3) else (if a0_1 > 3 then (tree_thing.j0 k (decide (a0_1 > 3)) a0_0 a0_1 l0_2 a0_3) else ((lines_Right.f l0_2).bind fun t121 => (tree_thing.j0 k (!t121) a0_0 a0_1 l0_2 a0_3)))) = some r:=by rw [if_pos rfl] at H; exact H
   clear H
   have H:=H1
   clear H1
   by_cases c8 : a0_1 < 1
   ·rw [if_pos c8] at H
    have c8b0 : decide (a0_1 < 1) = true:=decide_eq_true c8
    clear c8
    (first | rw [c8b0] | (simp only [i64_w,i32_w]; rw [c8b0]) | skip)
    have H':=Aside0.mk H
    clear H
    have hcz9_0 : w6.cell? ⟨gb119,0,none⟩ = some (.string a0_0):=(blk_cell BK119.out 0).trans rfl
    have hcz9_1 : w6.cell? ⟨gb119,1,none⟩ = some (.int .i64 a0_1):=(blk_cell BK119.out 1).trans rfl
    have hcz9_2 : w6.cell? ⟨gb119,2,none⟩ = some (.slice A0_2 l0_2.length c0_2):=(blk_cell BK119.out 2).trans rfl
    have hcz9_3 : w6.cell? ⟨gb119,3,none⟩ = some (.string a0_3):=(blk_cell BK119.out 3).trans rfl
    have hfz9_0:=blk_frozen BK119.out 0
    have hfz9_1:=blk_frozen BK119.out 1
    have hfz9_2:=blk_frozen BK119.out 2
    have hfz9_3:=blk_frozen BK119.out 3
    go_wp2
    go_meet
    case rel => exact ⟨_,(decide (a0_1 < 1)),(by first | rfl | (simp; done) | (simp [*]; done)),H',⟨by first | omega | exact Nat.le_refl _⟩,⟨by (with_reducible repeat (first | refine blk_drewN ?_ _ | refine blk_drew ?_ | refine blk_alloc ?_ _)); exact BK119.out⟩,⟨by repeat (first | (with_reducible first | exact HB.out | apply below_alloc | apply pw_below_drewN | apply below_drew1 | refine below_set ?_ GE119.out) | exact HB.out)⟩⟩
   ·rw [if_neg c8] at H
    have c8b0 : decide (a0_1 < 1) = false:=decide_eq_false c8
    clear c8
    (first | rw [c8b0] | (simp only [i64_w,i32_w]; rw [c8b0]) | skip)
    by_cases c10 : a0_1 > 3
    ·rw [if_pos c10] at H
     have c10b0 : decide (3 < a0_1) = true:=decide_eq_true c10
     clear c10
     have H':=Aside0.mk H
     clear H
     have hcz11_0 : w6.cell? ⟨gb119,0,none⟩ = some (.string a0_0):=(blk_cell BK119.out 0).trans rfl
     have hcz11_1 : w6.cell? ⟨gb119,1,none⟩ = some (.int .i64 a0_1):=(blk_cell BK119.out 1).trans rfl
     have hcz11_2 : w6.cell? ⟨gb119,2,none⟩ = some (.slice A0_2 l0_2.length c0_2):=(blk_cell BK119.out 2).trans rfl
     have hcz11_3 : w6.cell? ⟨gb119,3,none⟩ = some (.string a0_3):=(blk_cell BK119.out 3).trans rfl
     have hfz11_0:=blk_frozen BK119.out 0
     have hfz11_1:=blk_frozen BK119.out 1
     have hfz11_2:=blk_frozen BK119.out 2
     have hfz11_3:=blk_frozen BK119.out 3
     go_wp2
     go_meet
     case rel => exact ⟨_,(decide (a0_1 > 3)),(by first | rfl | (simp; done) | (simp [*]; done)),H',⟨by first | omega | exact Nat.le_refl _⟩,⟨by (with_reducible repeat (first | refine blk_drewN ?_ _ | refine blk_drew ?_ | refine blk_alloc ?_ _)); exact BK119.out⟩,⟨by repeat (first | (with_reducible first | exact HB.out | apply below_alloc | apply pw_below_drewN | apply below_drew1 | refine below_set ?_ GE119.out) | exact HB.out)⟩⟩
    ·rw [if_neg c10] at H
     have c10b0 : decide (3 < a0_1) = false:=decide_eq_false c10
     clear c10
     replace H:=Option.bind_eq_some_iff.mp H
     obtain ⟨t121,A120,H⟩:=H
     replace H : (tree_thing.j0 k (!t121) a0_0 a0_1 l0_2 a0_3) = some r:=H
     have A12:=Aside0.mk A120
     clear A120
     have H':=Aside0.mk H
     clear H
     have hcz13_0 : w6.cell? ⟨gb119,0,none⟩ = some (.string a0_0):=(blk_cell BK119.out 0).trans rfl
     have hcz13_1 : w6.cell? ⟨gb119,1,none⟩ = some (.int .i64 a0_1):=(blk_cell BK119.out 1).trans rfl
     have hcz13_2 : w6.cell? ⟨gb119,2,none⟩ = some (.slice A0_2 l0_2.length c0_2):=(blk_cell BK119.out 2).trans rfl
     have hcz13_3 : w6.cell? ⟨gb119,3,none⟩ = some (.string a0_3):=(blk_cell BK119.out 3).trans rfl
     have hfz13_0:=blk_frozen BK119.out 0
     have hfz13_1:=blk_frozen BK119.out 1
     have hfz13_2:=blk_frozen BK119.out 2
     have hfz13_3:=blk_frozen BK119.out 3
     go_wp2_with (first | ((with_reducible refine gate_callee (f:=69) rfl ?_); refine goesL_ (some 16) rfl rfl Tryz.func69 (by kernel_rfl) rfl #[.slice A0_2 l0_2.length c0_2] rfl (by (try simp only [List.map_toArray,List.map_cons,List.map_nil]); first | done | rfl | (simp only [List.length_drop,List.length_take]; rfl)) ?_; (with_reducible refine (lines_Right.calls _ _ l0_2 t121 _ ?side1 ?side2 A12.out).mono ?_); (case side1 => repeat (first | exact (Kd.C_below HR0_2.out HB.out) | (with_reducible refine Kd.C_alloc ?_ _) | (with_reducible refine Kd.C_drewN ?_ _) | (with_reducible refine Kd.C_drew ?_))); (case side2 => exact HC0_2.out); rintro e w' ⟨rfl,⟨nd,rfl⟩⟩; refine ⟨_,rfl,?_⟩))
     go_meet
     case rel => exact ⟨_,(!t121),(by first | rfl | (simp; done) | (simp [*]; done)),H',⟨by first | omega | exact Nat.le_refl _⟩,⟨by (with_reducible repeat (first | refine blk_drewN ?_ _ | refine blk_drew ?_ | refine blk_alloc ?_ _)); exact BK119.out⟩,⟨by repeat (first | (with_reducible first | exact HB.out | apply below_alloc | apply pw_below_drewN | apply below_drew1 | refine below_set ?_ GE119.out) | exact HB.out)⟩⟩
  ·replace c7:=Bool.eq_false_iff.mpr c7
   subst c7
   have H1 : (tree_thing.j0 k (!false) a0_0 a0_1 l0_2 a0_3) = some r:=by rw [if_neg (show ¬ (false = true) by decide)] at H; exact H
   clear H
   have H:=H1
   clear H1
   have H':=Aside0.mk H
   clear H
   go_wp2
   go_meet
   case rel => exact ⟨_,(!false),(by first | rfl | (simp; done) | (simp [*]; done)),H',⟨by first | omega | exact Nat.le_refl _⟩,⟨by (with_reducible repeat (first | refine blk_drewN ?_ _ | refine blk_drew ?_ | refine blk_alloc ?_ _)); exact BK119.out⟩,⟨by repeat (first | (with_reducible first | exact HB.out | apply below_alloc | apply pw_below_drewN | apply below_drew1 | refine below_set ?_ GE119.out) | exact HB.out)⟩⟩
 case rest =>
  clear HC3
  try clear c1
  try clear p2
  try clear c6
  try clear c7
  try clear c8
  try clear c8b0
  try clear c9
  try clear c10
  try clear c10b0
  try clear hcz11_0
  try clear hcz11_1
  try clear hcz11_2
  try clear hcz11_3
  try clear hcz13_0
  try clear hcz13_1
  try clear hcz13_2
  try clear hcz13_3
  try clear hcz5_0
  try clear hcz5_1
  try clear hcz5_2
  try clear hcz5_3
  try clear hcz9_0
  try clear hcz9_1
  try clear hcz9_2
  try clear hcz9_3
  try clear hfz11_0
  try clear hfz11_1
  try clear hfz11_2
  try clear hfz11_3
  try clear hfz13_0
  try clear hfz13_1
  try clear hfz13_2
  try clear hfz13_3
  try clear hfz5_0
  try clear hfz5_1
  try clear hfz5_2
  try clear hfz5_3
  try clear hfz9_0
  try clear hfz9_1
  try clear hfz9_2
  try clear hfz9_3
  obtain ⟨kq,x3_2,rfl,HA,HJ2,BK119,HB⟩:=hcut
  cases kq with
  | zero => exact absurd HA.out (by simp [tree_thing.j0])
  | succ kj2 =>
   have H:=HA.out
   clear HA
   simp only [tree_thing.j0] at H
   by_cases c14 : x3_2 = true
   ·subst c14
    have H1 : (some false) = some r:=by rw [if_pos rfl] at H; exact H
    clear H
    have H:=H1
    clear H1
    obtain rfl:=Option.some.inj H
    go_wp2
    go_ret
    exact ⟨by first | rfl | (simp [errW_none,errW_some] <;> rfl) | (simp [*,errW_none,errW_some] <;> rfl),by repeat (first | (with_reducible first | exact HB.out | apply below_alloc | apply pw_below_drewN | apply below_drew1 | refine below_set ?_ GE119.out) | exact HB.out)⟩
   ·replace c14:=Bool.eq_false_iff.mpr c14
    subst c14
    have H1 : (if a0_1 = 2 then (tree_thing.j1 kj2 false a0_0 a0_1 l0_2 a0_3) else (tree_thing.j1 kj2 (decide ((l0_2.length : Int) > 0)) a0_0 a0_1 l0_2 a0_3)) = some r:=by rw [if_neg (show ¬ (false = true) by decide)] at H; exact H
    clear H
    have H:=H1
    clear H1
    have HC15:=Aside0.mk H
    clear H
    go_upto_region 6 with (fail)
    go_cut [18] (fun v18 wc => ∃ (kq : Nat) (x18_14 : Bool),v18 = .bool x18_14 ∧ Aside0 (tree_thing.j1 kq x18_14 a0_0 a0_1 l0_2 a0_3 = some r) ∧ Aside0 (kq ≤ kj2) ∧ Aside0 (wc.heap[gb119]? = some (.cells #[.string a0_0,.int .i64 a0_1,(.slice A0_2 l0_2.length c0_2),.string a0_3] 41 (0,0))) ∧ Aside0 (Below w.heap.size w wc))
    case first =>
     have H:=HC15.out
     clear HC15
     by_cases c16 : a0_1 = 2
     ·rw [if_pos c16] at H
      have c16b0 : (a0_1 == 2) = true:=beq_iff_eq.mpr c16
      have c16b1 : (a0_1 != 2) = false:=bne_eq_false_iff_eq.mpr c16
      clear c16
      (first | rw [c16b0] | (simp only [i64_w,i32_w]; rw [c16b0]) | skip)
      have H':=Aside0.mk H
      clear H
      have hcz17_0 : wc.cell? ⟨gb119,0,none⟩ = some (.string a0_0):=(blk_cell BK119.out 0).trans rfl
      have hcz17_1 : wc.cell? ⟨gb119,1,none⟩ = some (.int .i64 a0_1):=(blk_cell BK119.out 1).trans rfl
      have hcz17_2 : wc.cell? ⟨gb119,2,none⟩ = some (.slice A0_2 l0_2.length c0_2):=(blk_cell BK119.out 2).trans rfl
      have hcz17_3 : wc.cell? ⟨gb119,3,none⟩ = some (.string a0_3):=(blk_cell BK119.out 3).trans rfl
      have hfz17_0:=blk_frozen BK119.out 0
      have hfz17_1:=blk_frozen BK119.out 1
      have hfz17_2:=blk_frozen BK119.out 2
      have hfz17_3:=blk_frozen BK119.out 3
      go_wp2
      go_meet
      case rel => exact ⟨_,(false),(by first | rfl | (simp; done) | (simp [*]; done)),H',⟨by have:=HJ2.out; first | omega | exact Nat.le_refl _⟩,⟨by (with_reducible repeat (first | refine blk_drewN ?_ _ | refine blk_drew ?_ | refine blk_alloc ?_ _)); exact BK119.out⟩,⟨by repeat (first | (with_reducible first | exact HB.out | apply below_alloc | apply pw_below_drewN | apply below_drew1 | refine below_set ?_ GE119.out) | exact HB.out)⟩⟩
     ·rw [if_neg c16] at H
      have c16b0 : (a0_1 == 2) = false:=beq_eq_false_iff_ne.mpr c16
      have c16b1 : (a0_1 != 2) = true:=bne_iff_ne.mpr c16
      (first | rw [c16b0] | (simp only [i64_w,i32_w]; rw [c16b0]) | skip)
      have H':=Aside0.mk H
      clear H
      have hcz18_0 : wc.cell? ⟨gb119,0,none⟩ = some (.string a0_0):=(blk_cell BK119.out 0).trans rfl
      have hcz18_1 : wc.cell? ⟨gb119,1,none⟩ = some (.int .i64 a0_1):=(blk_cell BK119.out 1).trans rfl
      have hcz18_2 : wc.cell? ⟨gb119,2,none⟩ = some (.slice A0_2 l0_2.length c0_2):=(blk_cell BK119.out 2).trans rfl
      have hcz18_3 : wc.cell? ⟨gb119,3,none⟩ = some (.string a0_3):=(blk_cell BK119.out 3).trans rfl
      have hfz18_0:=blk_frozen BK119.out 0
      have hfz18_1:=blk_frozen BK119.out 1
      have hfz18_2:=blk_frozen BK119.out 2
      have hfz18_3:=blk_frozen BK119.out 3
      go_wp2
      go_meet
      case rel => exact ⟨_,(decide ((l0_2.length : Int) > 0)),(by first | rfl | (simp; done) | (simp [*]; done)),H',⟨by have:=HJ2.out; first | omega | exact Nat.le_refl _⟩,⟨by (with_reducible repeat (first | refine blk_drewN ?_ _ | refine blk_drew ?_ | refine blk_alloc ?_ _)); exact BK119.out⟩,⟨by repeat (first | (with_reducible first | exact HB.out | apply below_alloc | apply pw_below_drewN | apply below_drew1 | refine below_set ?_ GE119.out) | exact HB.out)⟩⟩
    case rest =>
     clear HC15
     try clear c1
     try clear p2
     try clear c6
     try clear c7
     try clear c8
     try clear c8b0
     try clear c9
     try clear c10
     try clear c10b0
     try clear c14
     try clear c16
     try clear c16b0
     try clear c16b1
     try clear hcz11_0
     try clear hcz11_1
     try clear hcz11_2
     try clear hcz11_3
     try clear hcz13_0
     try clear hcz13_1
     try clear hcz13_2
     try clear hcz13_3
     try clear hcz17_0
     try clear hcz17_1
     try clear hcz17_2
     try clear hcz17_3
     try clear hcz18_0
     try clear hcz18_1
     try clear hcz18_2
     try clear hcz18_3
     try clear hcz5_0
     try clear hcz5_1
     try clear hcz5_2
     try clear hcz5_3
     try clear hcz9_0
     try clear hcz9_1
     try clear hcz9_2
     try clear hcz9_3
     try clear hfz11_0
     try clear hfz11_1
     try clear hfz11_2
     try clear hfz11_3
     try clear hfz13_0
     try clear hfz13_1
     try clear hfz13_2
     try clear hfz13_3
     try clear hfz17_0
     try clear hfz17_1
     try clear hfz17_2
     try clear hfz17_3
     try clear hfz18_0
     try clear hfz18_1
     try clear hfz18_2
     try clear hfz18_3
     try clear hfz5_0
     try clear hfz5_1
     try clear hfz5_2
     try clear hfz5_3
     try clear hfz9_0
     try clear hfz9_1
     try clear hfz9_2
     try clear hfz9_3
     try clear p2
     obtain ⟨kq,x18_14,rfl,HA,HJ14,BK119,HB⟩:=hcut
     cases kq with
     | zero => exact absurd HA.out (by simp [tree_thing.j1])
     | succ kj14 =>
      have H:=HA.out
      clear HA
      simp only [tree_thing.j1] at H
      by_cases c19 : x18_14 = true
      ·subst c19
       have H1 : (some false) = some r:=by rw [if_pos rfl] at H; exact H
       clear H
       have H:=H1
       clear H1
       obtain rfl:=Option.some.inj H
       go_wp2
       go_ret
       exact ⟨by first | rfl | (simp [errW_none,errW_some] <;> rfl) | (simp [*,errW_none,errW_some] <;> rfl),by repeat (first | (with_reducible first | exact HB.out | apply below_alloc | apply pw_below_drewN | apply below_drew1 | refine below_set ?_ GE119.out) | exact HB.out)⟩
      ·replace c19:=Bool.eq_false_iff.mpr c19
       subst c19
       have H1 : (if a0_1 = 3 then (some true) else (if a0_3.toList = ([] : List UInt8) then (some true) else (some false))) = some r:=by rw [if_neg (show ¬ (false = true) by decide)] at H; exact H
       clear H
       have H:=H1
       clear H1
       by_cases c20 : a0_1 = 3
       ·rw [if_pos c20] at H
        have c20b0 : (a0_1 == 3) = true:=beq_iff_eq.mpr c20
        have c20b1 : (a0_1 != 3) = false:=bne_eq_false_iff_eq.mpr c20
        clear c20
        obtain rfl:=Option.some.inj H
        have hcz21_0 : wc.cell? ⟨gb119,0,none⟩ = some (.string a0_0):=(blk_cell BK119.out 0).trans rfl
        have hcz21_1 : wc.cell? ⟨gb119,1,none⟩ = some (.int .i64 a0_1):=(blk_cell BK119.out 1).trans rfl
        have hcz21_2 : wc.cell? ⟨gb119,2,none⟩ = some (.slice A0_2 l0_2.length c0_2):=(blk_cell BK119.out 2).trans rfl
        have hcz21_3 : wc.cell? ⟨gb119,3,none⟩ = some (.string a0_3):=(blk_cell BK119.out 3).trans rfl
        have hfz21_0:=blk_frozen BK119.out 0
        have hfz21_1:=blk_frozen BK119.out 1
        have hfz21_2:=blk_frozen BK119.out 2
        have hfz21_3:=blk_frozen BK119.out 3
        go_wp2
        go_ret
        exact ⟨by first | rfl | (simp [errW_none,errW_some] <;> rfl) | (simp [*,errW_none,errW_some] <;> rfl),by repeat (first | (with_reducible first | exact HB.out | apply below_alloc | apply pw_below_drewN | apply below_drew1 | refine below_set ?_ GE119.out) | exact HB.out)⟩
       ·rw [if_neg c20] at H
        have c20b0 : (a0_1 == 3) = false:=beq_eq_false_iff_ne.mpr c20
        have c20b1 : (a0_1 != 3) = true:=bne_iff_ne.mpr c20
        by_cases c22 : a0_3.toList = ([] : List UInt8)
        ·rw [if_pos c22] at H
         have c22b0 : (a0_3.toList == ([] : List UInt8)) = true:=beq_iff_eq.mpr c22
         have c22b1 : (a0_3.toList != ([] : List UInt8)) = false:=bne_eq_false_iff_eq.mpr c22
         clear c22
         obtain rfl:=Option.some.inj H
         have hcz23_0 : wc.cell? ⟨gb119,0,none⟩ = some (.string a0_0):=(blk_cell BK119.out 0).trans rfl
         have hcz23_1 : wc.cell? ⟨gb119,1,none⟩ = some (.int .i64 a0_1):=(blk_cell BK119.out 1).trans rfl
         have hcz23_2 : wc.cell? ⟨gb119,2,none⟩ = some (.slice A0_2 l0_2.length c0_2):=(blk_cell BK119.out 2).trans rfl
         have hcz23_3 : wc.cell? ⟨gb119,3,none⟩ = some (.string a0_3):=(blk_cell BK119.out 3).trans rfl
         have hfz23_0:=blk_frozen BK119.out 0
         have hfz23_1:=blk_frozen BK119.out 1
         have hfz23_2:=blk_frozen BK119.out 2
         have hfz23_3:=blk_frozen BK119.out 3
         go_wp2
         go_ret
         exact ⟨by first | rfl | (simp [errW_none,errW_some] <;> rfl) | (simp [*,errW_none,errW_some] <;> rfl),by repeat (first | (with_reducible first | exact HB.out | apply below_alloc | apply pw_below_drewN | apply below_drew1 | refine below_set ?_ GE119.out) | exact HB.out)⟩
        ·rw [if_neg c22] at H
         have c22b0 : (a0_3.toList == ([] : List UInt8)) = false:=beq_eq_false_iff_ne.mpr c22
         have c22b1 : (a0_3.toList != ([] : List UInt8)) = true:=bne_iff_ne.mpr c22
         obtain rfl:=Option.some.inj H
         have hcz24_0 : wc.cell? ⟨gb119,0,none⟩ = some (.string a0_0):=(blk_cell BK119.out 0).trans rfl
         have hcz24_1 : wc.cell? ⟨gb119,1,none⟩ = some (.int .i64 a0_1):=(blk_cell BK119.out 1).trans rfl
         have hcz24_2 : wc.cell? ⟨gb119,2,none⟩ = some (.slice A0_2 l0_2.length c0_2):=(blk_cell BK119.out 2).trans rfl
         have hcz24_3 : wc.cell? ⟨gb119,3,none⟩ = some (.string a0_3):=(blk_cell BK119.out 3).trans rfl
         have hfz24_0:=blk_frozen BK119.out 0
         have hfz24_1:=blk_frozen BK119.out 1
         have hfz24_2:=blk_frozen BK119.out 2
         have hfz24_3:=blk_frozen BK119.out 3
         go_wp2
         go_ret
         exact ⟨by first | rfl | (simp [errW_none,errW_some] <;> rfl) | (simp [*,errW_none,errW_some] <;> rfl),by repeat (first | (with_reducible first | exact HB.out | apply below_alloc | apply pw_below_drewN | apply below_drew1 | refine below_set ?_ GE119.out) | exact HB.out)⟩

-- NOT PRINTED: function 51 (tree_Right)

-- NOT PRINTED: function 73 (api_Entry_73)

-- NOT PRINTED: function 189 (bytealg_abigen_runtime_cmpstring)

-- NOT PRINTED: function 173 (bytealg_CompareString)

-- NOT PRINTED: function 143 (strings_Compare)

-- NOT PRINTED: function 107 (prim_order)

-- NOT PRINTED: function 130 (api_Entry_130)

-- NOT PRINTED: function 92 (prim_where)

-- NOT PRINTED: function 91 (prim_room)

-- NOT PRINTED: function 131 (api_Entry_131)

-- NOT PRINTED: function 181 (api_Entry_181)

-- NOT PRINTED: function 158 (api_Entry_158)

-- NOT PRINTED: function 132 (api_Entry_132)

-- NOT PRINTED: function 93 (api_Entry_93)

-- NOT PRINTED: function 94 (prim_kinds)

-- NOT PRINTED: function 52 (prim_add)

-- NOT PRINTED: function 95 (prim_there)

-- NOT PRINTED: function 133 (api_Entry_133)

-- NOT PRINTED: function 96 (api_Entry_96)

-- NOT PRINTED: function 99 (api_Entry_99)

-- NOT PRINTED: function 53 (prim_remove)

-- NOT PRINTED: function 54 (prim_changing)

def slices_Equal_string_string.l0 : Nat → List ByteArray → List ByteArray → Int → Int → Option (Bool)
 | 0,_,_,_,_ => none
 | k + 1,x0,x1,x12,x13 => if x13 < x12 then (if 0 ≤ x13 then (if x13 < (x0.length : Int) then (if x13 < (x1.length : Int) then (if (rdOf ByteArray.empty x0 x13).toList = (rdOf ByteArray.empty x1 x13).toList then (slices_Equal_string_string.l0 k x0 x1 x12 (wrap64 (x13 + 1))) else (some false)) else (none)) else (none)) else (none)) else (some true)
def slices_Equal_string_string.f (k : Nat) (l0 : List ByteArray) (l1 : List ByteArray) : Option (Bool):=if (l0.length : Int) = (l1.length : Int) then (slices_Equal_string_string.l0 k l0 l1 (l0.length : Int) 0) else (some false)
theorem slices_Equal_string_string.mono_l : ∀ k,(∀ y0 y1 y2 y3,LeO (slices_Equal_string_string.l0 k y0 y1 y2 y3) (slices_Equal_string_string.l0 (k + 1) y0 y1 y2 y3))
 | 0 => fun _ _ _ _ r h => by simp [slices_Equal_string_string.l0] at h
 | k + 1 => by
  have ih0:=slices_Equal_string_string.mono_l k
  ·intro y0 y1 y2 y3
   unfold slices_Equal_string_string.l0
   repeat' first
   | (with_reducible exact ih0 _ _ _ _)
   | (with_reducible exact LeO.refl _)
   | (with_reducible exact LeO.none _)
   | (with_reducible refine LeO.ite ?_ ?_)
   | (with_reducible refine LeO.bind ?_ (fun _ => ?_))
   | exact ih0 _ _ _ _
   | exact LeO.none _
   | refine LeO.ite ?_ ?_
   | refine LeO.bind ?_ (fun _ => ?_)
theorem slices_Equal_string_string.mono : ∀ a0 a1 k,LeO (slices_Equal_string_string.f k a0 a1) (slices_Equal_string_string.f (k + 1) a0 a1):=by
 intro a0 a1 k
 have ih0:=slices_Equal_string_string.mono_l k
 unfold slices_Equal_string_string.f
 repeat' first
   | (with_reducible exact ih0 _ _ _ _)
   | (with_reducible exact LeO.refl _)
   | (with_reducible exact LeO.none _)
   | (with_reducible refine LeO.ite ?_ ?_)
   | (with_reducible refine LeO.bind ?_ (fun _ => ?_))
   | exact ih0 _ _ _ _
   | exact LeO.none _
   | refine LeO.ite ?_ ?_
   | refine LeO.bind ?_ (fun _ => ?_)
set_option maxHeartbeats 8000000 in
set_option maxRecDepth 100000 in
theorem slices_Equal_string_string.calls (k : Nat) (A0 : Option Addr) (c0 : Nat) (l0 : List ByteArray) (A1 : Option Addr) (c1 : Nat) (l1 : List ByteArray) (r : Bool) (w : World) (hr0 : Kd.C Kd.string w A0 l0.length l0) (hc0 : l0.length ≤ c0) (hr1 : Kd.C Kd.string w A1 l1.length l1) (hc1 : l1.length ≤ c1) (h : slices_Equal_string_string.f k l0 l1 = some r) :
  Calls Tryz.prog 135 #[.slice A0 l0.length c0,.slice A1 l1.length c1] w fun e w' => e = .returned (.bool r) ∧ Drawn0 w w':=by
 have HR0:=Aside0.mk hr0
 have HC0:=Aside0.mk hc0
 clear hr0 hc0
 have HR1:=Aside0.mk hr1
 have HC1:=Aside0.mk hc1
 clear hr1 hc1
 have H : (if (l0.length : Int) = (l1.length : Int) then (slices_Equal_string_string.l0 k l0 l1 (l0.length : Int) 0) else (some false)) = some r:=h
 clear h
 by_cases c3 : (l0.length : Int) = (l1.length : Int)
 ·rw [if_pos c3] at H
  have c3b0 : ((l0.length : Int) == (l1.length : Int)) = true:=beq_iff_eq.mpr c3
  have c3b1 : ((l0.length : Int) != (l1.length : Int)) = false:=bne_eq_false_iff_eq.mpr c3
  have c3b2 : (l0.length == l1.length) = true:=by first | simpa using c3 | (simp at c3 ⊢; omega)
  clear c3
  have H':=Aside0.mk H
  clear H
  go_enter Tryz.func135,Tryz.ntmps135
  go_wp2
  repeat (go_quiet (fail); try go_wp2)
  go_loopg [13] k (fun kq v13 w' => ∃ (x13_1 : Int),v13 = .int .i64 x13_1 ∧ Aside0 (slices_Equal_string_string.l0 kq l0 l1 (l0.length : Int) x13_1 = some r) ∧ Aside0 (kq ≤ k) ∧ Drawn0 w w')
  case atStart => exact ⟨(0),(by first | rfl | (simp; done) | (simp [*]; done)),H',⟨Nat.le_refl _⟩,by repeat (first | exact Drawn0.refl _ | apply Drawn0.step)⟩
  case round =>
   clear H'
   try clear c1
   try clear p2
   try clear c3
   try clear c3b0
   try clear c3b1
   try clear c3b2
   obtain ⟨x13_1,rfl,HA,HK1,⟨m1,rfl⟩⟩:=hrel
   cases gk with
   | zero => exact absurd HA.out (by simp [slices_Equal_string_string.l0])
   | succ k1 =>
    have H:=HA.out
    clear HA
    simp only [slices_Equal_string_string.l0] at H
    by_cases c4 : x13_1 < (l0.length : Int)
    ·rw [if_pos c4] at H
     have c4b0 : decide (x13_1 < (l0.length : Int)) = true:=decide_eq_true c4
     clear c4
     by_cases c5 : 0 ≤ x13_1
     ·rw [if_pos c5] at H
      have c5b0 : decide (0 ≤ x13_1) = true:=decide_eq_true c5
      clear c5
      by_cases c6 : x13_1 < (l0.length : Int)
      ·rw [if_pos c6] at H
       have c6b0 : decide (x13_1 < (l0.length : Int)) = true:=decide_eq_true c6
       clear c6
       by_cases c7 : x13_1 < (l1.length : Int)
       ·rw [if_pos c7] at H
        have c7b0 : decide (x13_1 < (l1.length : Int)) = true:=decide_eq_true c7
        clear c7
        by_cases c8 : (rdOf ByteArray.empty l0 x13_1).toList = (rdOf ByteArray.empty l1 x13_1).toList
        ·rw [if_pos c8] at H
         have c8b0 : ((rdOf ByteArray.empty l0 x13_1).toList == (rdOf ByteArray.empty l1 x13_1).toList) = true:=beq_iff_eq.mpr c8
         have c8b1 : ((rdOf ByteArray.empty l0 x13_1).toList != (rdOf ByteArray.empty l1 x13_1).toList) = false:=bne_eq_false_iff_eq.mpr c8
         clear c8
         have H':=Aside0.mk H
         clear H
         have p137 : 0 ≤ (x13_1 : Int):=of_decide_eq_true (by first | (with_reducible assumption) | assumption)
         have q137 : x13_1 < (l0.length : Int):=of_decide_eq_true (by first | (with_reducible assumption) | assumption)
         obtain ⟨ad137,e137,hx137_0⟩:=Kd.at_string HR0.out x13_1 p137 q137
         cases e137
         replace p137:=eq_true p137
         replace q137:=eq_true q137
         have p138 : 0 ≤ (x13_1 : Int):=of_decide_eq_true (by first | (with_reducible assumption) | assumption)
         have q138 : x13_1 < (l1.length : Int):=of_decide_eq_true (by first | (with_reducible assumption) | assumption)
         obtain ⟨ad138,e138,hx138_0⟩:=Kd.at_string HR1.out x13_1 p138 q138
         cases e138
         replace p138:=eq_true p138
         replace q138:=eq_true q138
         go_wp2
         repeat (go_quiet (fail); try go_wp2)
         go_roundg k1
         case measure => have:=HK1.out; omega
         case rel => exact ⟨(wrap64 (x13_1 + 1)),(by first | rfl | (simp; done) | (simp [*]; done)),H',⟨by have:=HK1.out; omega⟩,by repeat (first | exact Drawn0.refl _ | apply Drawn0.step)⟩
        ·rw [if_neg c8] at H
         have c8b0 : ((rdOf ByteArray.empty l0 x13_1).toList == (rdOf ByteArray.empty l1 x13_1).toList) = false:=beq_eq_false_iff_ne.mpr c8
         have c8b1 : ((rdOf ByteArray.empty l0 x13_1).toList != (rdOf ByteArray.empty l1 x13_1).toList) = true:=bne_iff_ne.mpr c8
         obtain rfl:=Option.some.inj H
         have p137 : 0 ≤ (x13_1 : Int):=of_decide_eq_true (by first | (with_reducible assumption) | assumption)
         have q137 : x13_1 < (l0.length : Int):=of_decide_eq_true (by first | (with_reducible assumption) | assumption)
         obtain ⟨ad137,e137,hx137_0⟩:=Kd.at_string HR0.out x13_1 p137 q137
         cases e137
         replace p137:=eq_true p137
         replace q137:=eq_true q137
         have p138 : 0 ≤ (x13_1 : Int):=of_decide_eq_true (by first | (with_reducible assumption) | assumption)
         have q138 : x13_1 < (l1.length : Int):=of_decide_eq_true (by first | (with_reducible assumption) | assumption)
         obtain ⟨ad138,e138,hx138_0⟩:=Kd.at_string HR1.out x13_1 p138 q138
         cases e138
         replace p138:=eq_true p138
         replace q138:=eq_true q138
         go_wp2
         repeat (go_quiet (fail); try go_wp2)
         go_ret
         exact ⟨by first | rfl | (simp; done) | (simp [*]; done) | (simp [show ∀ l : List UInt8,(l != []) = !l.isEmpty from fun l => by cases l <;> rfl]; done),by repeat (first | exact Drawn0.refl _ | apply Drawn0.step)⟩
       ·rw [if_neg c7] at H
        exact absurd H (by simp)
      ·rw [if_neg c6] at H
       exact absurd H (by simp)
     ·rw [if_neg c5] at H
      exact absurd H (by simp)
    ·rw [if_neg c4] at H
     have c4b0 : decide (x13_1 < (l0.length : Int)) = false:=decide_eq_false c4
     clear c4
     obtain rfl:=Option.some.inj H
     go_wp2
     repeat (go_quiet (fail); try go_wp2)
     go_ret
     exact ⟨by first | rfl | (simp; done) | (simp [*]; done) | (simp [show ∀ l : List UInt8,(l != []) = !l.isEmpty from fun l => by cases l <;> rfl]; done),by repeat (first | exact Drawn0.refl _ | apply Drawn0.step)⟩
 ·rw [if_neg c3] at H
  have c3b0 : ((l0.length : Int) == (l1.length : Int)) = false:=beq_eq_false_iff_ne.mpr c3
  have c3b1 : ((l0.length : Int) != (l1.length : Int)) = true:=bne_iff_ne.mpr c3
  have c3b2 : (l0.length == l1.length) = false:=by first | simpa using c3 | (simp at c3 ⊢; omega)
  obtain rfl:=Option.some.inj H
  go_enter Tryz.func135,Tryz.ntmps135
  go_wp2
  repeat (go_quiet (fail); try go_wp2)
  go_ret
  exact ⟨by first | rfl | (simp; done) | (simp [*]; done) | (simp [show ∀ l : List UInt8,(l != []) = !l.isEmpty from fun l => by cases l <;> rfl]; done),by repeat (first | exact Drawn0.refl _ | apply Drawn0.step)⟩

-- NOT PRINTED: function 160 (slices_Grow_string_string)

-- NOT PRINTED: function 136 (slices_Concat_string_string)

-- NOT PRINTED: function 101 (diff_Apply)

-- NOT PRINTED: function 55 (prim_hunk)

end Go.Proofs.YthhohbidjhcjeaaGreatDoor.Q
namespace Go.Proofs.YthhohbidjhcjeaaGreatDoor.H
open Go.RowKit Go.Shelf Go.Proofs.YthhohbidjhcjeaaGreatDoorW.PrintWords Go.Proofs.YthhohbidjhcjeaaGreatDoorW.PrintLast Go.Proofs.YthhohbidjhcjeaaGreatDoorW.PrintMore
open Go.Proofs.YthhohbidjhcjeaaGreatDoor.Q Go.Proofs.YthhohbidjhcjeaaGreatDoor.Pl
set_option linter.unusedVariables false
set_option linter.unusedSimpArgs false
def thingB (x : S41) : Bool :=
 rightB x.f0 && decide (1 ≤ x.f1) && decide (x.f1 ≤ 3) && linesB x.f2 && (decide (x.f1 = 2) || decide (x.f2.length = 0)) && (decide (x.f1 = 3) || decide (x.f3.toList = []))
theorem thing_f (x : S41) (h : x.f0.size ≤ 140737488355328) : tree_thing.f 2 x.f0 x.f1 x.f2 x.f3 = some (thingB x):=by
 unfold tree_thing.f thingB
 rw [path_f x.f0 h,Option.bind_some]
 have hl : lines_Right.f x.f2 = some (linesB x.f2):=rfl
 rw [hl,Option.bind_some]
 simp only [tree_thing.j0,tree_thing.j1]
 cases rightB x.f0 with
 | false => simp
 | true =>
  by_cases h1 : x.f1 < 1
  ·have : ¬ 1 ≤ x.f1:=by omega
   simp [h1,this]
  ·have h1' : 1 ≤ x.f1:=by omega
   by_cases h3 : x.f1 > 3
   ·have : ¬ x.f1 ≤ 3:=by omega
    simp [h1,h3,this]
   ·have h3' : x.f1 ≤ 3:=by omega
    cases linesB x.f2 with
    | false => simp [h1,h3]
    | true =>
     by_cases k2 : x.f1 = 2
     ·simp [k2]
      by_cases d : x.f3.toList = [] <;> simp [d]
     ·by_cases hz : x.f2.length = 0
      ·by_cases k3 : x.f1 = 3
       ·simp [k3,hz]
       ·by_cases d : x.f3.toList = [] <;> simp [h1,h1',h3,h3',k2,k3,hz,d]
      ·have hp : (x.f2.length : Int) > 0:=by omega
       have hp2 : 0 < x.f2.length:=by omega
       simp [h1,h1',h3,h3',k2,hz,hp,hp2]
theorem thing_at (x : S41) (X : Option Addr) (c : Nat) (w : World) (hx : Re w x X c) (h : x.f0.size ≤ 140737488355328) :
  Calls Tryz.prog 90 #[.agg #[.string x.f0,.int .i64 x.f1,.slice X x.f2.length c,.string x.f3]] w fun e w' => e = .returned (.bool (thingB x)) ∧ Below w.heap.size w w' :=
 tree_thing.calls 2 x.f0 x.f1 X c x.f2 x.f3 _ w hx.g hx.l (thing_f x h)
open Go.RowKit Go.Proofs.YthhohbidjhcjeaaGreatDoor.Q Go.Proofs.YthhohbidjhcjeaaGreatDoor.Pl
def dirB (l : List S41) (p : ByteArray) : Bool:=l.any (fun x => decide (x.f0 = p) && decide (x.f1 = 1))
def nextB (l : List S41) (x : S41) : Bool :=
 thingB x && (match l.getLast? with | none => true | some y => ltP y.f0 x.f0) && (match parentV x.f0 with | none => true | some p => dirB l p)
def stepsB : List S41 → List S41 → Bool
 | _,[] => true
 | l,x :: r => nextB l x && stepsB (l ++ [x]) r
def treeB (l : List S41) : Bool:=decide (l.length ≤ 1024) && stepsB [] l
theorem steps_srt : ∀ (r l : List S41),Srt l → stepsB l r = true → Srt (l ++ r)
 | [],l,hl,_ => by simpa using hl
 | x :: r,l,hl,h => by
  simp only [stepsB,Bool.and_eq_true] at h
  obtain ⟨hn,hr⟩:=h
  have hx : Srt (l ++ [x]):=by
   unfold nextB at hn
   simp only [Bool.and_eq_true] at hn
   have hlast:=hn.1.2
   unfold Srt at hl ⊢
   rw [List.pairwise_append]
   refine ⟨hl,by simp,fun a ha b hb => ?_⟩
   rw [List.mem_singleton] at hb
   subst hb
   cases hg : l.getLast? with
   | none => rw [List.getLast?_eq_none_iff] at hg; rw [hg] at ha; cases ha
   | some y =>
    rw [hg] at hlast
    obtain ⟨l',rfl⟩:=List.getLast?_eq_some_iff.mp hg
    rcases List.mem_append.mp ha with h1 | h1
    ·exact ltP_trans ((List.pairwise_append.mp hl).2.2 a h1 y (by simp)) hlast
    ·rw [List.mem_singleton] at h1; rw [h1]; exact hlast
  have:=steps_srt r (l ++ [x]) hx hr
  rwa [List.append_assoc] at this
open Go.RowKit Go.Proofs.YthhohbidjhcjeaaGreatDoor.Q Go.Proofs.YthhohbidjhcjeaaGreatDoorW.PrintWords Go.Proofs.YthhohbidjhcjeaaGreatDoorW.PrintLast Go.Proofs.YthhohbidjhcjeaaGreatDoorW.PrintMore
def zero4 : List Value:=[.string ⟨#[]⟩,.int .i64 0,.slice none 0 0,.string ⟨#[]⟩]
theorem clear_one (w : World) (ty : TypeId) (b o c : Nat) (hc : ∀ j,j < 4 → (w.cell? ⟨b,o + j,none⟩).isSome = true) (hf : ∀ j,j < 4 → w.frozen? ⟨b,o + j,none⟩ = false) :
  (Builtin.clear_ #[22] ty #[.slice (some ⟨b,o,none⟩) 1 c]).run Tryz.prog w = .ok (.tuple #[]) (w.setCells b o zero4):=by
 have hst:=run_storeCells_cells (P:=Tryz.prog) b o zero4 0 w (by simpa [zero4] using hc) (by simpa [zero4] using hf) (by
  intro v hv
  simp only [zero4,List.mem_cons,List.not_mem_nil,or_false] at hv
  rcases hv with rfl | rfl | rfl | rfl <;> rfl)
 simp only [Nat.add_zero] at hst
 have hz : ∀ w,(zeroValue 41).run Tryz.prog w = .ok (.agg #[.string ⟨#[]⟩,.int .i64 0,.slice none 0 0,.string ⟨#[]⟩]) w:=Tryz.zeroValue41
 have hzc : (Builtin.zeroCells (Value.agg #[.string ⟨#[]⟩,.int .i64 0,.slice none 0 0,.string ⟨#[]⟩]).cells 1).toList = zero4:=by kernel_rfl
 simp [Builtin.clear_,run_underlying Tryz.underlying22,hz,hzc,hst]
theorem below_cells {B g : Nat} {a : World} (hg : B ≤ g) : ∀ (vs : List Value) (o : Nat) (w : World),Below B a w → Below B a (w.setCells g o vs)
 | [],_,_,h => h
 | v :: r,o,w,h => below_cells hg r (o + 1) _ (h.setCell hg _)
set_option maxHeartbeats 4000000 in
set_option maxRecDepth 1000000 in
theorem delete_at (w : World) (l : List S41) (v : Value) (i : Nat) (W : World) (hrow : Row w W v l) (hB : Below w.heap.size w W) (hi : i < l.length) (hl : l.length ≤ 1000000000) :
  Calls Tryz.prog 99 #[v,.int .i64 i,.int .i64 ((i : Int) + 1)] W fun e W' => ∃ A c,e = .returned (.slice A (l.length - 1) c) ∧ l.length - 1 ≤ c ∧ ReadsRow (Rw w) 4 W' A (l.length - 1) (l.eraseIdx i) ∧ Below w.heap.size w W':=by
 obtain ⟨inner,⟨hlen,ho⟩,hr⟩:=hrow
 rcases ho with ⟨rfl,h0⟩ | ⟨g,cap,cur,rfl,hg,hh,hnc,hcm,hcs,ht⟩
 ·omega
 ·obtain ⟨n,hn⟩ : ∃ n,l.length = n:=⟨_,rfl⟩
  rw [hn] at hlen hnc ht hi hl ⊢
  have HR:=Aside0.mk hr
  have HH:=Aside0.mk hh
  have HT:=Aside0.mk ht
  have HLEN:=Aside0.mk hlen
  have HCS:=Aside0.mk hcs
  have HN:=Aside0.mk hn
  have HB:=Aside0.mk hB
  have HG:=Aside0.mk hg
  have hcap : cap ≤ 9223372036854775807:=hcm
  have hi1 : (i : Int) ≤ (i : Int) + 1:=by omega
  have hi2 : (i : Int) + 1 ≤ (n : Int):=by omega
  have hi3 : (0 : Int) ≤ (i : Int):=by omega
  have hi4 : (i : Int) + 1 ≤ (cap : Int):=by omega
  have hi5 : (i : Int) ≤ (cap : Int):=by omega
  have hnc' : (n : Int) ≤ (cap : Int):=by omega
  have hi6 : (0 : Int) ≤ (i : Int) + 1:=by omega
  have mixed : Tryz.prog.follows Departure.mixedOrders = true:=by kernel_rfl
  have hne : ((i : Int) == (i : Int) + 1) = false:=by rw [beq_eq_false_iff_ne]; omega
  clear hr hh ht hlen hcs hn hB hg hcm
  go_enter Tryz.func99,Tryz.ntmps99
  go_wp2_with fail
  obtain ⟨news,hnews⟩ : ∃ news,news = inner.drop ((i + 1) * 4):=⟨_,rfl⟩
  have s1 : Aside0 (news.length = (n - (i + 1)) * 4):=⟨by rw [hnews,List.length_drop,HLEN.out,Nat.sub_mul]⟩
  have hcell : ∀ p u,inner[p]? = some u → W.drew.cell? ⟨g,p,none⟩ = some u:=by
   intro p u hp
   rw [← HT.out,List.getElem?_take] at hp
   split at hp
   ·exact (blk_cell (w:=W.drew) HH.out p).trans (by simpa using hp)
   ·cases hp
  have hone:=reps_one HR.out
  have s2 : Aside0 (∀ u ∈ news,u.oneCell' = true):=⟨by rw [hnews]; exact fun u hu => hone u (List.mem_of_mem_drop hu)⟩
  obtain ⟨A,hA,hsrc⟩ : ∃ A : Addr,(if cap = i + 1 then (some (⟨g,0,none⟩ : Addr)) else some ⟨g,(i + 1) * 4,none⟩) = some A ∧ Aside0 (∀ t u,news[t]? = some u → W.drew.cell? (A.add t) = some u):=by
   by_cases h : cap = i + 1
   ·refine ⟨⟨g,0,none⟩,by simp [h],⟨fun t u hu => ?_⟩⟩
    have h0 : news.length = 0:=by rw [s1.out]; omega
    rw [List.length_eq_zero_iff.1 h0] at hu
    simp at hu
   ·refine ⟨⟨g,(i + 1) * 4,none⟩,by simp [h],⟨fun t u hu => ?_⟩⟩
    rw [hnews,List.getElem?_drop] at hu
    rw [Addr.add_lit]
    exact hcell _ _ hu
  have s3 : Aside0 (∀ t,t < news.length → (W.drew.cell? ⟨g,0 + i * 4 + t,none⟩).isSome = true ∧ W.drew.frozen? ⟨g,0 + i * 4 + t,none⟩ = false):=⟨by
   intro t ht
   rw [s1.out] at ht
   have hin : 0 + i * 4 + t < inner.length:=by rw [HLEN.out]; omega
   exact ⟨by rw [hcell _ _ (List.getElem?_eq_getElem hin)]; rfl,blk_frozen (w:=W.drew) HH.out _⟩⟩
  obtain ⟨W1,hW1⟩ : ∃ W1,W1 = W.drew.setCells g (0 + i * 4) news:=⟨_,rfl⟩
  obtain ⟨cur1,hh1,hcs1,hl1⟩:=setCells_row news (0 + i * 4) W.drew cur HH.out (by rw [s1.out,HCS.out]; omega)
  rw [← hW1] at hh1
  have HH1:=Aside0.mk hh1
  have HL1:=Aside0.mk hl1
  have HCS1:=Aside0.mk hcs1
  have HNEWS:=Aside0.mk hnews
  have HW:=Aside0.mk hW1
  obtain ⟨i0,hi0,hz0,hz1,hz2⟩:=info_parts info41
  clear hW1 hh1 hl1 hcs1 hnews hcell hone
  go_region_law_o (refine step_append_room rfl (.tmp 22) (.tmp 25) 22 rfl 41 i0 4 Tryz.underlying22 hi0 hz1 g 0 i cap (by simp [Act.eval,Act.put]) A (n - (i + 1)) (cap - (i + 1)) news (by simp [Act.eval,Act.put]) s1.out hsrc.out s2.out (by omega) s3.out ?_; rw [← HW.out])
  obtain ⟨k,rfl⟩ : ∃ k,n = k + 1:=⟨n - 1,by omega⟩
  rw [show i + (k + 1 - (i + 1)) = k by omega]
  have hck : (cap = k) = False:=eq_false (by omega)
  have hk0 : (0 : Int) ≤ (k : Int):=by omega
  have hk1 : (k : Int) ≤ (k : Int) + 1:=by omega
  have hk2 : (k : Int) + 1 ≤ (cap : Int):=by omega
  have hk3 : (k : Int) ≤ (cap : Int):=by omega
  have hcl : ∀ ty,(Builtin.clear_ #[22] ty #[.slice (some ⟨g,k * 4,none⟩) 1 (cap - k)]).run Tryz.prog W1 = .ok (.tuple #[]) (W1.setCells g (k * 4) zero4):=fun ty =>
   clear_one W1 ty g (k * 4) (cap - k) (fun j hj => by rw [blk_cell HH1.out,Array.getElem?_eq_getElem (by rw [HCS1.out,HCS.out]; omega)]; rfl) (fun j hj => blk_frozen HH1.out _)
  clear hA hsrc s2 s3 mixed hz0 hz2
  go_wp2
  go_ret
  obtain ⟨cur2,hh2,hcs2,hl2⟩:=setCells_row zero4 (k * 4) W1 cur1 HH1.out (by rw [HCS1.out,HCS.out]; simp [zero4]; omega)
  have hin : inner.take (i * 4) = cur.toList.take (i * 4):=by rw [← HT.out,List.take_take,Nat.min_eq_left (by omega)]
  have hnl : news.length = (k - i) * 4:=by rw [s1.out]; omega
  have hil : (inner.take (i * 4)).length = i * 4:=by rw [List.length_take,HLEN.out]; omega
  have htk : cur2.toList.take (k * 4) = inner.take (i * 4) ++ news:=by
   have h1 : cur1.toList.take (k * 4) = inner.take (i * 4) ++ news:=by
    rw [HL1.out,Nat.zero_add,← hin,List.take_left' (by rw [List.length_append,hil,hnl]; omega)]
   rw [hl2,List.append_assoc,List.take_left' (by rw [List.length_take,Array.length_toList,HCS1.out,HCS.out]; omega),h1]
  have hreps : Reps (Rw w) 4 (l.eraseIdx i) (inner.take (i * 4) ++ news):=by
   rw [List.eraseIdx_eq_take_drop_succ,HNEWS.out]
   exact Kd.reps_append (Kd.reps_take HR.out (by rw [HN.out]; omega)) (Kd.reps_drop HR.out)
  have hlen2 : (l.eraseIdx i).length = k:=by rw [List.length_eraseIdx_of_lt (by rw [HN.out]; omega),HN.out]; rfl
  have hown : OwnRow (Rw w) 41 4 (W1.setCells g (k * 4) zero4) w.heap.size (.slice (some ⟨g,0,none⟩) k cap) (l.eraseIdx i) :=
   ⟨_,⟨by rw [List.length_append,hil,hnl,hlen2]; omega,Or.inr ⟨g,cap,cur2,by rw [hlen2],HG.out,hh2,by rw [hlen2]; omega,hcap,by rw [hcs2,HCS1.out,HCS.out],by rw [hlen2]; exact htk⟩⟩,hreps⟩
  obtain ⟨A',c',he,hc',hrr⟩:=OwnRow.reads hown
  injection he with e1 e2 e3
  rw [← e1,hlen2] at hrr
  exact ⟨_,_,rfl,by omega,hrr,below_cells HG.out _ _ _ (by rw [HW.out]; exact below_cells HG.out _ _ _ (below_drew HB.out))⟩
def fullB (l : List S41) (q : ByteArray) : Bool:=l.any (fun x => insideB x.f0 q) || decide (0 < (l.getD (lowB l q) z41).f2.length) || ((l.getD (lowB l q) z41).f3.toList != [])
def removeE (l : List S41) (q : ByteArray) (k : Int) : Int:=if thereV l q k = 0 then (if fullB l q then 81 else 0) else thereV l q k
def Ans (w : World) (l : List S41) (err : Int) (e : Ending) (w' : World) : Prop :=
 Below w.heap.size w w' ∧ (if err = 0 then ∃ A c,e = .returned (.tuple #[.slice A l.length c,.int .i64 0]) ∧ l.length ≤ c ∧ Kd.C k41 w' A l.length l else e = .returned (.tuple #[.slice none 0 0,.int .i64 err]))
set_option maxHeartbeats 4000000 in
set_option maxRecDepth 1000000 in
theorem remove_at (l : List S41) (A : Option Addr) (c : Nat) (k : Int) (q : ByteArray) (v2 v3 v4 v5 v6 : Value) (w : World) (h2 : v2.oneCell' = true) (h3 : v3.oneCell' = true) (h4 : v4.oneCell' = true) (h5 : v5.oneCell' = true) (h6 : v6.oneCell' = true)
  (hr : Kd.C k41 w A l.length l) (hl : l.length ≤ 1000000000) (hs : Srt l) (hk0 : 0 ≤ k) (hk1 : k ≤ 10) :
  Calls Tryz.prog 53 #[.slice A l.length c,.agg #[.int .i64 k,.string q,v2,v3,v4,v5,v6]] w (Ans w (l.eraseIdx (lowB l q)) (removeE l q k)):=by
 have HB : Aside0 (Below w.heap.size w (w.alloc (.cells #[.int .i64 k,.string q,v2,v3,v4,v5,v6] 25))):=⟨below_alloc (Below.refl _ _) _⟩
 have HX : Aside0 ((w.alloc (.cells #[.int .i64 k,.string q,v2,v3,v4,v5,v6] 25)).heap[w.heap.size]? = some (.cells #[.int .i64 k,.string q,v2,v3,v4,v5,v6] 25 (0,0))):=⟨blk_new _ _⟩
 have h1:=there_at l A c k q v2 v3 v4 v5 v6 _ h2 h3 h4 h5 h6 (Kd.C_below hr HB.out) hl hs hk0 hk1
 obtain ⟨b0,b1,b2,b3,b4,b5,b6⟩:=cells7 HX.out
 have HR:=Aside0.mk hr
 have HS:=Aside0.mk hs
 have HL:=Aside0.mk hl
 obtain ⟨t,ht⟩ : ∃ t,thereV l q k = t:=⟨_,rfl⟩
 have HT:=Aside0.mk ht
 rw [ht] at h1
 clear hr hs hl ht
 by_cases h0 : t = 0
 ·subst h0
  obtain ⟨x,hfx⟩ : ∃ x,findV l q = some x:=by
   have h:=HT.out
   unfold thereV at h
   cases hf : findV l q with
   | none => rw [hf] at h; simp at h
   | some x => exact ⟨x,rfl⟩
  obtain ⟨hx,hlo⟩:=(has_find HS.out q).2 x hfx
  obtain ⟨j,hj⟩ : ∃ j,lowB l q = j:=⟨_,rfl⟩
  have hfull : Aside0 (fullB l q = (l.any (fun x => insideB x.f0 q) || decide (0 < x.f2.length) || (x.f3.toList != []))):=⟨by unfold fullB; rw [hx]⟩
  have hrem : removeE l q k = if fullB l q then 81 else 0:=by unfold removeE; rw [HT.out,if_pos rfl]
  rw [hrem,hfull.out]
  rw [hj] at hx hlo h1 ⊢
  have HJ:=Aside0.mk hj
  have hj0 : (0 : Int) ≤ (j : Int):=by omega
  have hj1 : (j : Int) < (l.length : Int):=by omega
  clear hfx hrem hfull hj
  obtain ⟨r,hrr⟩ : ∃ r,l.any (fun x => insideB x.f0 q) = r:=⟨_,rfl⟩
  have RR:=Aside0.mk hrr
  rw [hrr]
  obtain ⟨err,herr⟩ : ∃ err : Int,(if (r || decide (0 < x.f2.length) || (x.f3.toList != [])) = true then (81 : Int) else 0) = err:=⟨_,rfl⟩
  rw [herr]
  have ER:=Aside0.mk herr
  clear hrr herr
  go_enter Tryz.func53,Tryz.ntmps53
  go_upto_region 4 with (go_at_call 95; refine h1.mono ?_; rintro e w1 ⟨⟨i,rfl,hi⟩,hb⟩)
  obtain rfl : i = j:=hi trivial
  have hB1:=Aside0.mk (HB.out.trans (hb.mono HB.out.size))
  have hX1:=Aside0.mk (blk_below HX.out hb)
  have h2c:=contains_at l A c q w.heap.size (.int .i64 k) v2 v3 v4 v5 v6 w1 (Kd.C_below HR.out hB1.out) HL.out hX1.out
  rw [RR.out] at h2c
  clear b0 b1 b2 b3 b4 b5 b6 HB HX h1 hb hi
  go_upto_region 5 with (go_at_call 96; refine h2c.mono ?_; rintro e w2 ⟨rfl,hb2⟩)
  have hB2:=Aside0.mk (hB1.out.trans (hb2.mono hB1.out.size))
  obtain ⟨ad,X,y,rfl,rx,c0,c1,c2,c3⟩:=ent_at (Kd.C_below HR.out hB2.out) i hlo rfl
  rw [hx] at c0 c1 c2 c3
  clear rx c0 c1 h2c hb2
  cases r with
  | true =>
   go_wp2
   go_ret2
   exact ⟨hB2.out,by have he : err = 81:=(by rw [← ER.out]; simp); rw [he]; simp⟩
  | false =>
   by_cases hz : 0 < x.f2.length
   ·have hz1 : decide (0 < x.f2.length) = true:=decide_eq_true hz
    have hz2 : decide ((0 : Int) < (x.f2.length : Int)) = true:=decide_eq_true (by omega)
    go_wp2
    go_ret2
    exact ⟨hB2.out,by have he : err = 81:=(by rw [← ER.out]; simp [hz]); rw [he]; simp⟩
   ·have hz0 : x.f2.length = 0:=by omega
    by_cases hd : x.f3.toList = []
    ·have hz1 : decide (0 < x.f2.length) = false:=decide_eq_false hz
     have hz2 : decide ((0 : Int) < (x.f2.length : Int)) = false:=decide_eq_false (by omega)
     have hd1 : (x.f3.toList != []) = false:=by simp [hd]
     have hcl:=clone_at w l (some ad) c w2 hB2.out HL.out (rows_rw HR.out hB2.out)
     have hw1 : IntKind.i64.wrap ((i : Int) + 1) = (i : Int) + 1:=wrap_small _ (by omega) (by have:=HL.out; omega)
     go_upto_region 7 with (fail)
     go_wp2_with (first | (go_at_call 73; refine hcl.mono ?_; rintro e w3 ⟨v,rfl,hrow,hb3,-⟩) | (go_at_call 99; refine (delete_at w l v i w3 hrow hb3 hlo HL.out).mono ?_; rintro e w4 ⟨A4,c4,rfl,hc4,hrr4,hb4⟩))
     go_ret2
     have hlen : (l.eraseIdx i).length = l.length - 1:=List.length_eraseIdx_of_lt hlo
     refine ⟨hb4,?_⟩
     rw [if_pos (show err = 0 by rw [← ER.out]; simp [hz,hd])]
     refine ⟨A4,c4,by rw [hlen]; rfl,by rw [hlen]; exact hc4,?_⟩
     rw [hlen]
     refine ReadsRow.imp_ hrr4 (Below.refl _ _) ?_
     rintro p cl ⟨X',x',rfl,rx'⟩
     exact k41_mk w4 p rx'.l (Kd.C_below rx'.g hb4)
    ·have hd1 : (x.f3.toList != []) = true:=by simp [hd]
     have hd2 : (x.f3.toList == []) = false:=by simp [hd]
     have hd3 : x.f3.toList.isEmpty = false:=by simp [hd]
     have hz1 : decide (0 < x.f2.length) = false:=decide_eq_false hz
     have hz2 : decide ((0 : Int) < (x.f2.length : Int)) = false:=decide_eq_false (by omega)
     go_wp2
     go_ret2
     exact ⟨hB2.out,by have he : err = 81:=(by rw [← ER.out]; simp [hd]); rw [he]; simp⟩
 ·have hrem : removeE l q k = t:=by unfold removeE; rw [HT.out,if_neg h0]
  rw [hrem]
  have hne : (t == 0) = false:=by simp [h0]
  have hne2 : (t != 0) = true:=by simp [h0]
  go_enter Tryz.func53,Tryz.ntmps53
  go_wp2_with (go_at_call 95; refine h1.mono ?_; rintro e w1 ⟨⟨i,rfl,hi⟩,hb⟩)
  go_ret2
  exact ⟨HB.out.trans (hb.mono HB.out.size),by rw [if_neg h0]; rfl⟩
theorem find_none {l : List S41} {s : ByteArray} : findV l s = none ↔ ∀ x ∈ l,x.f0 ≠ s:=by
 unfold findV
 rw [List.find?_eq_none]
 simp
theorem find_mem {l : List S41} {s : ByteArray} {x : S41} (h : findV l s = some x) : x ∈ l ∧ x.f0 = s:=by
 unfold findV at h
 exact ⟨List.mem_of_find?_eq_some h,by simpa using List.find?_some h⟩
theorem find_append (a b : List S41) (s : ByteArray) : findV (a ++ b) s = (findV a s).or (findV b s):=by
 unfold findV
 rw [List.find?_append]
theorem find_cons (x : S41) (l : List S41) (s : ByteArray) : findV (x :: l) s = if x.f0 = s then some x else findV l s:=by
 unfold findV
 by_cases h : x.f0 = s
 ·rw [List.find?_cons_of_pos (by simpa using h),if_pos h]
 ·rw [List.find?_cons_of_neg (by simpa using h),if_neg h]
theorem srt_append {a b : List S41} : Srt (a ++ b) ↔ Srt a ∧ Srt b ∧ ∀ x ∈ a,∀ y ∈ b,ltP x.f0 y.f0 = true:=List.pairwise_append
theorem ltP_ne {a b : ByteArray} (h : ltP a b = true) : a ≠ b:=fun k => by rw [k,ltP_irrefl] at h; cases h
theorem find_of_mem : ∀ {l : List S41},Srt l → ∀ {x},x ∈ l → findV l x.f0 = some x
 | [],_,x,hx => by cases hx
 | y :: l,h,x,hx => by
  obtain ⟨h1,h2⟩:=srt_cons.mp h
  rw [find_cons]
  rcases List.mem_cons.mp hx with rfl | hx
  ·rw [if_pos rfl]
  ·rw [if_neg (ltP_ne (h1 x hx)),find_of_mem h2 hx]
theorem srt_mem_ext : ∀ {a b : List S41},Srt a → Srt b → (∀ x,x ∈ a ↔ x ∈ b) → a = b
 | [],[],_,_,_ => rfl
 | [],y :: b,_,_,h => absurd ((h y).2 (by simp)) (by simp)
 | x :: a,[],_,_,h => absurd ((h x).1 (by simp)) (by simp)
 | x :: a,y :: b,ha,hb,h => by
  obtain ⟨ha1,ha2⟩:=srt_cons.mp ha
  obtain ⟨hb1,hb2⟩:=srt_cons.mp hb
  have hxy : x = y:=by
   rcases List.mem_cons.mp ((h x).1 (by simp)) with k | k
   ·exact k
   ·rcases List.mem_cons.mp ((h y).2 (by simp)) with m | m
    ·exact m.symm
    ·have:=ltP_trans (hb1 x k) (ha1 y m)
     rw [ltP_irrefl] at this; cases this
  subst hxy
  congr 1
  refine srt_mem_ext ha2 hb2 fun z => ⟨fun hz => ?_,fun hz => ?_⟩
  ·rcases List.mem_cons.mp ((h z).1 (List.mem_cons_of_mem _ hz)) with k | k
   ·subst k; have:=ha1 z hz; rw [ltP_irrefl] at this; cases this
   ·exact k
  ·rcases List.mem_cons.mp ((h z).2 (List.mem_cons_of_mem _ hz)) with k | k
   ·subst k; have:=hb1 z hz; rw [ltP_irrefl] at this; cases this
   ·exact k
theorem low_cut : ∀ {l : List S41},Srt l → ∀ p,(∀ x ∈ l.take (lowB l p),ltP x.f0 p = true) ∧ (∀ x ∈ l.drop (lowB l p),ltP x.f0 p = false)
 | [],_,p => ⟨by simp,by simp⟩
 | y :: l,h,p => by
  obtain ⟨hy,hl⟩:=srt_cons.mp h
  obtain ⟨i1,i2⟩:=low_cut hl p
  by_cases hlt : ltP y.f0 p = true
  ·rw [lowB_cons,if_pos hlt]
   refine ⟨fun x hx => ?_,fun x hx => ?_⟩
   ·rw [List.take_succ_cons] at hx
    rcases List.mem_cons.mp hx with rfl | hx
    ·exact hlt
    ·exact i1 x hx
   ·rw [List.drop_succ_cons] at hx
    exact i2 x hx
  ·have h0 : ∀ x ∈ y :: l,ltP x.f0 p = false:=fun x hx => by
    rcases List.mem_cons.mp hx with rfl | hx
    ·simpa using hlt
    ·cases k : ltP x.f0 p with
     | false => rfl
     | true => exact absurd (ltP_trans (hy x hx) k) hlt
   rw [lowB_zero h0]
   exact ⟨by simp,h0⟩
theorem split_at {l : List S41} (h : Srt l) {q : ByteArray} {x : S41} (hx : findV l q = some x) : l = l.take (lowB l q) ++ x :: l.drop (lowB l q + 1):=by
 obtain ⟨h1,h2⟩:=(has_find h q).2 x hx
 have h3:=List.drop_eq_getElem_cons h2
 rw [← getD_get h2,h1] at h3
 rw [← h3,List.take_append_drop]
theorem mid_srt {a b : List S41} {x y : S41} (h : Srt (a ++ x :: b)) (e : y.f0 = x.f0) : Srt (a ++ y :: b):=by
 obtain ⟨h1,h2,h3⟩:=srt_append.mp h
 obtain ⟨h4,h5⟩:=srt_cons.mp h2
 refine srt_append.mpr ⟨h1,srt_cons.mpr ⟨fun z hz => by rw [e]; exact h4 z hz,h5⟩,fun u hu v hv => ?_⟩
 rcases List.mem_cons.mp hv with rfl | hv
 ·rw [e]; exact h3 u hu x (by simp)
 ·exact h3 u hu v (List.mem_cons_of_mem _ hv)
theorem mid_none {a b : List S41} {x : S41} (h : Srt (a ++ x :: b)) : findV a x.f0 = none ∧ findV b x.f0 = none:=by
 obtain ⟨h1,h2,h3⟩:=srt_append.mp h
 exact ⟨find_none.mpr fun u hu => ltP_ne (h3 u hu x (by simp)),find_none.mpr fun u hu => (ltP_ne ((srt_cons.mp h2).1 u hu)).symm⟩
theorem mid_find {a b : List S41} {x : S41} (h : Srt (a ++ x :: b)) (s : ByteArray) : findV (a ++ x :: b) s = if s = x.f0 then some x else findV (a ++ b) s:=by
 rw [find_append,find_cons,find_append]
 by_cases hs : s = x.f0
 ·subst hs
  rw [if_pos rfl,if_pos rfl,(mid_none h).1]
  rfl
 ·rw [if_neg hs,if_neg (fun k => hs k.symm)]
def insL (l : List S41) (x : S41) : List S41:=l.take (lowB l x.f0) ++ x :: l.drop (lowB l x.f0)
def delL (l : List S41) (q : ByteArray) : List S41:=l.eraseIdx (lowB l q)
def setL (l : List S41) (q : ByteArray) (y : S41) : List S41:=l.set (lowB l q) y
theorem ins_srt {l : List S41} (h : Srt l) {x : S41} (hx : findV l x.f0 = none) : Srt (insL l x):=by
 unfold insL
 obtain ⟨c1,c2⟩:=low_cut h x.f0
 rw [← List.take_append_drop (lowB l x.f0) l] at h
 obtain ⟨h1,h2,h3⟩:=srt_append.mp h
 refine srt_append.mpr ⟨h1,srt_cons.mpr ⟨fun y hy => ?_,h2⟩,fun u hu v hv => ?_⟩
 ·exact ltP_total (c2 y hy) (find_none.mp hx y (List.mem_of_mem_drop hy))
 ·rcases List.mem_cons.mp hv with rfl | hv
  ·exact c1 u hu
  ·exact h3 u hu v hv
theorem ins_find {l : List S41} (h : Srt l) {x : S41} (hx : findV l x.f0 = none) (s : ByteArray) : findV (insL l x) s = if s = x.f0 then some x else findV l s:=by
 have:=mid_find (ins_srt h hx) s
 unfold insL
 rw [this,List.take_append_drop]
theorem ins_len (l : List S41) (x : S41) : (insL l x).length = l.length + 1:=by
 unfold insL
 have:=lowB_le l x.f0
 rw [List.length_append,List.length_cons,List.length_take,List.length_drop]
 omega
theorem ins_mem {l : List S41} {x z : S41} : z ∈ insL l x ↔ z = x ∨ z ∈ l:=by
 unfold insL
 rw [List.mem_append,List.mem_cons]
 conv => rhs; rw [← List.take_append_drop (lowB l x.f0) l,List.mem_append]
 constructor
 ·rintro (h | h | h)
  ·exact .inr (.inl h)
  ·exact .inl h
  ·exact .inr (.inr h)
 ·rintro (h | h | h)
  ·exact .inr (.inl h)
  ·exact .inl h
  ·exact .inr (.inr h)
theorem del_eq {l : List S41} {q : ByteArray} : delL l q = l.take (lowB l q) ++ l.drop (lowB l q + 1):=List.eraseIdx_eq_take_drop_succ ..
theorem del_srt {l : List S41} (h : Srt l) (q : ByteArray) : Srt (delL l q):=by
 rw [del_eq]
 rw [← List.take_append_drop (lowB l q) l] at h
 obtain ⟨h1,h2,h3⟩:=srt_append.mp h
 have hsub : ∀ x ∈ l.drop (lowB l q + 1),x ∈ l.drop (lowB l q):=fun x hx => by
  rw [← List.drop_drop] at hx
  exact List.mem_of_mem_drop hx
 refine srt_append.mpr ⟨h1,?_,fun u hu v hv => h3 u hu v (hsub v hv)⟩
 rw [← List.drop_drop]
 exact List.Pairwise.drop h2
theorem del_find {l : List S41} (h : Srt l) {q : ByteArray} {x : S41} (hx : findV l q = some x) (s : ByteArray) : findV (delL l q) s = if s = q then none else findV l s:=by
 have hq:=(find_mem hx).2
 have e:=split_at h hx
 obtain ⟨a,ha⟩ : ∃ a,l.take (lowB l q) = a:=⟨_,rfl⟩
 obtain ⟨b,hb⟩ : ∃ b,l.drop (lowB l q + 1) = b:=⟨_,rfl⟩
 rw [del_eq]
 rw [ha,hb] at e ⊢
 subst hq
 rw [e] at h
 by_cases hs : s = x.f0
 ·subst hs
  rw [if_pos rfl,find_append,(mid_none h).1,(mid_none h).2]
  rfl
 ·rw [if_neg hs,e,mid_find h,if_neg hs]
theorem del_len {l : List S41} (h : Srt l) {q : ByteArray} {x : S41} (hx : findV l q = some x) : (delL l q).length + 1 = l.length:=by
 have:=((has_find h q).2 x hx).2
 unfold delL
 rw [List.length_eraseIdx_of_lt this]
 omega
theorem set_eq {l : List S41} (h : Srt l) {q : ByteArray} {x : S41} (hx : findV l q = some x) (y : S41) : setL l q y = l.take (lowB l q) ++ y :: l.drop (lowB l q + 1):=by
 unfold setL
 rw [List.set_eq_take_append_cons_drop,if_pos ((has_find h q).2 x hx).2]
theorem set_srt {l : List S41} (h : Srt l) {q : ByteArray} {x : S41} (hx : findV l q = some x) {y : S41} (e : y.f0 = q) : Srt (setL l q y):=by
 rw [set_eq h hx]
 have hs:=split_at h hx
 rw [hs] at h
 exact mid_srt h (e.trans (find_mem hx).2.symm)
theorem set_find {l : List S41} (h : Srt l) {q : ByteArray} {x : S41} (hx : findV l q = some x) {y : S41} (e : y.f0 = q) (s : ByteArray) : findV (setL l q y) s = if s = q then some y else findV l s:=by
 have hy:=set_srt h hx e
 have hs:=split_at h hx
 rw [set_eq h hx] at hy ⊢
 rw [mid_find hy,e]
 by_cases k : s = q
 ·rw [if_pos k,if_pos k]
 ·rw [if_neg k,if_neg k]
  rw [hs] at h
  conv => rhs; rw [hs]
  rw [mid_find h,if_neg (by rw [(find_mem hx).2]; exact k)]
theorem set_len (l : List S41) (q : ByteArray) (y : S41) : (setL l q y).length = l.length:=List.length_set ..
def sortV (l : List S41) : List S41:=l.foldr (fun x acc => insL acc x) []
def Dis (l : List S41) : Prop:=l.Pairwise (fun x y => x.f0 ≠ y.f0)
theorem sort_mem : ∀ {l : List S41} {z : S41},z ∈ sortV l ↔ z ∈ l
 | [],z => by simp [sortV]
 | x :: l,z => by
  have : sortV (x :: l) = insL (sortV l) x:=rfl
  rw [this,ins_mem,sort_mem,List.mem_cons]
theorem sort_srt : ∀ {l : List S41},Dis l → Srt (sortV l)
 | [],_ => List.Pairwise.nil
 | x :: l,h => by
  obtain ⟨h1,h2⟩:=List.pairwise_cons.mp h
  exact ins_srt (sort_srt h2) (find_none.mpr fun y hy => (h1 y (sort_mem.mp hy)).symm)
theorem sort_len : ∀ (l : List S41),(sortV l).length = l.length
 | [] => rfl
 | x :: l => by
  have : sortV (x :: l) = insL (sortV l) x:=rfl
  rw [this,ins_len,sort_len,List.length_cons]
theorem sort_uniq {l k : List S41} (hd : Dis l) (hk : Srt k) (hm : ∀ z,z ∈ k ↔ z ∈ l) : k = sortV l:=srt_mem_ext hk (sort_srt hd) fun z => by rw [hm,sort_mem]
theorem find_dis : ∀ {l : List S41},Dis l → ∀ {x},x ∈ l → findV l x.f0 = some x
 | [],_,x,hx => by cases hx
 | y :: l,h,x,hx => by
  obtain ⟨h1,h2⟩:=List.pairwise_cons.mp h
  rw [find_cons]
  rcases List.mem_cons.mp hx with rfl | hx
  ·rw [if_pos rfl]
  ·rw [if_neg (h1 x hx),find_dis h2 hx]
theorem sort_find {l : List S41} (hd : Dis l) (s : ByteArray) : findV (sortV l) s = findV l s:=by
 cases h : findV l s with
 | none => exact find_none.mpr fun x hx => find_none.mp h x (sort_mem.mp hx)
 | some x =>
  obtain ⟨h1,h2⟩:=find_mem h
  subst h2
  exact find_of_mem (sort_srt hd) (sort_mem.mpr h1)
def Below47 (r : List UInt8) : Prop:=r = [] ∨ ∃ t,r = 47 :: t
theorem within_iff (a b : ByteArray) : withinB a b = true ↔ ∃ r : List UInt8,a.data.toList = b.data.toList ++ r ∧ Below47 r:=by
 have ex1 : (a.extract 0 b.size).toList = a.data.toList.take b.size:=by rw [toList_data,extract_data,List.drop_zero]
 have ex2 : (a.extract b.size a.size).data.toList = a.data.toList.drop b.size:=by
  rw [extract_data,List.take_of_length_le (by rw [dlen]; exact Nat.le_refl _)]
 unfold withinB
 rw [ex1,toList_data b,toList_data (a.extract _ _),ex2]
 constructor
 ·intro h
  split at h
  ·rename_i h1
   refine ⟨a.data.toList.drop b.size,?_,?_⟩
   ·have:=List.take_append_drop b.size a.data.toList
    rw [h1.1] at this
    exact this.symm
   ·split at h
    ·rename_i h2
     exact .inl h2
    ·rename_i h2
     right
     obtain ⟨x,t,hxt⟩:=List.exists_cons_of_ne_nil h2
     have hpos : 0 < (a.extract b.size a.size).size:=by
      rw [← dlen,ex2,hxt]
      simp
     have hb:=bt_get (a.extract b.size a.size) 0 hpos
     have h3 : (a.extract b.size a.size).data.toList[0]? = some x:=by rw [ex2,hxt]; rfl
     have h4:=List.getElem?_eq_getElem (l:=(a.extract b.size a.size).data.toList) (i:=0) (by rw [dlen]; exact hpos)
     have h5:=Option.some.inj (h4.symm.trans h3)
     rw [h5] at hb
     rw [show ((0 : Nat) : Int) = 0 from rfl] at hb
     rw [hb] at h
     have h6 : (x.toNat : Int) = 47:=by simpa using h
     have h7 : x.toNat = (47 : UInt8).toNat:=by
      have : x.toNat = 47:=by omega
      rw [this]
      rfl
     exact ⟨t,by rw [hxt,UInt8.toNat_inj.1 h7]⟩
  ·cases h
 ·rintro ⟨r,hr,ho⟩
  have hl : b.data.toList.length = b.size:=dlen b
  have hsz : b.size ≤ a.size:=by
   have:=congrArg List.length hr
   rw [dlen,List.length_append,hl] at this
   omega
  have h1 : a.data.toList.take b.size = b.data.toList:=by rw [hr]; exact List.take_left' hl
  have h2 : a.data.toList.drop b.size = r:=by rw [hr]; exact List.drop_left' hl
  rw [if_pos ⟨h1,hsz⟩,h2]
  rcases ho with rfl | ⟨t,rfl⟩
  ·rw [if_pos rfl]
  ·rw [if_neg (by simp)]
   have hpos : 0 < (a.extract b.size a.size).size:=by
    rw [← dlen,ex2,h2]
    simp
   have hb:=bt_get (a.extract b.size a.size) 0 hpos
   have h3 : (a.extract b.size a.size).data.toList[0]? = some 47:=by rw [ex2,h2]; rfl
   have h4:=List.getElem?_eq_getElem (l:=(a.extract b.size a.size).data.toList) (i:=0) (by rw [dlen]; exact hpos)
   have h5:=Option.some.inj (h4.symm.trans h3)
   rw [h5] at hb
   rw [show ((0 : Nat) : Int) = 0 from rfl] at hb
   rw [hb]
   rfl
theorem apart_within {a b : ByteArray} (h : apartB a b = true) : withinB a b = false ∧ withinB b a = false:=by
 unfold apartB at h
 cases h1 : withinB a b <;> cases h2 : withinB b a <;> simp_all
def mv (s fr dst : ByteArray) : ByteArray:=dst ++ s.extract fr.size s.size
theorem mv_data {s fr : ByteArray} (dst : ByteArray) {r : List UInt8} (h : s.data.toList = fr.data.toList ++ r) : (mv s fr dst).data.toList = dst.data.toList ++ r:=by
 unfold mv
 rw [ByteArray.toList_data_append,extract_data,List.take_of_length_le (by rw [dlen]; exact Nat.le_refl _),h,List.drop_left' (dlen fr)]
theorem mv_within {s fr : ByteArray} (dst : ByteArray) (h : withinB s fr = true) : withinB (mv s fr dst) dst = true:=by
 obtain ⟨r,hr,ho⟩:=(within_iff _ _).1 h
 exact (within_iff _ _).2 ⟨r,mv_data dst hr,ho⟩
theorem mv_back {s fr : ByteArray} (dst : ByteArray) (h : withinB s fr = true) : mv (mv s fr dst) dst fr = s:=by
 obtain ⟨r,hr,ho⟩:=(within_iff _ _).1 h
 exact data_inj (by rw [mv_data fr (mv_data dst hr),hr])
theorem get_bang (s : ByteArray) (i : Nat) (h : i < s.size) : s.data[i]! = s.data.toList[i]'(by rw [dlen]; exact h):=by
 have h' : i < s.data.size:=h
 rw [getElem!_pos s.data i h',Array.getElem_toList]
theorem u8_47 {c : UInt8} (h : (c.toNat : Int) = 47) : c = 47:=by
 have h1 : c.toNat = (47 : UInt8).toNat:=by
  have h2 : c.toNat = 47:=by omega
  rw [h2]; rfl
 exact UInt8.toNat_inj.mp h1
theorem parent_cases (p : ByteArray) : (parentV p = none ∧ (47 : UInt8) ∉ p.data.toList) ∨ ∃ q t,parentV p = some q ∧ p.data.toList = q.data.toList ++ 47 :: t ∧ (47 : UInt8) ∉ t:=by
 unfold parentV
 rcases Lib.lastIndexByte_spec p 47 with ⟨he,hn⟩ | ⟨k,hk,he,hc,hn⟩
 ·left
  rw [he]
  refine ⟨rfl,fun hm => ?_⟩
  obtain ⟨j,hj,e⟩:=List.getElem_of_mem hm
  have hj' : j < p.size:=by rw [dlen] at hj; exact hj
  refine hn j hj' ?_
  rw [get_bang p j hj',e]
  rfl
 ·right
  have hl : k < p.data.toList.length:=by rw [dlen]; exact hk
  refine ⟨p.extract 0 k,p.data.toList.drop (k + 1),by rw [he,if_neg (by omega),Int.toNat_natCast],?_,fun hm => ?_⟩
  ·rw [extract_data,List.drop_zero]
   have h1:=List.drop_eq_getElem_cons hl
   rw [get_bang p k hk] at hc
   rw [u8_47 hc] at h1
   rw [← h1,List.take_append_drop]
  ·obtain ⟨j,hj,e⟩:=List.getElem_of_mem hm
   rw [List.length_drop] at hj
   rw [List.getElem_drop] at e
   have hj' : k + 1 + j < p.size:=by rw [← dlen]; omega
   refine hn (k + 1 + j) (by omega) hj' ?_
   rw [get_bang p (k + 1 + j) hj',e]
   rfl
theorem parent_eq {p q : ByteArray} {t : List UInt8} (h : p.data.toList = q.data.toList ++ 47 :: t) (ht : (47 : UInt8) ∉ t) : parentV p = some q:=by
 rcases parent_cases p with ⟨_,hn⟩ | ⟨q',t',e,h',ht'⟩
 ·exact absurd (by rw [h]; simp) hn
 ·rw [e]
  congr 1
  refine data_inj ?_
  rw [h] at h'
  rcases List.append_eq_append_iff.mp h' with ⟨a,h1,h2⟩ | ⟨a,h1,h2⟩
  ·cases a with
   | nil => rw [h1]; simp
   | cons c a =>
    injection h2 with h3 h4
    exact absurd (by rw [h4]; simp) ht
  ·cases a with
   | nil => rw [h1]; simp
   | cons c a =>
    injection h2 with h3 h4
    exact absurd (by rw [h4]; simp) ht'
theorem cb_prefix : ∀ (a : List UInt8) (c : UInt8) (t : List UInt8),Lib.compareBytes a (a ++ c :: t) < 0
 | [],c,t => by simp [Lib.compareBytes]
 | x :: a,c,t => by
  have:=cb_prefix a c t
  simp [Lib.compareBytes,this]
theorem lt_prefix {p q : ByteArray} {c : UInt8} {t : List UInt8} (h : p.data.toList = q.data.toList ++ c :: t) : ltP q p = true:=by
 refine (cmp_lt _ _).mp ?_
 unfold cmpP
 rw [h]
 exact cb_prefix _ _ _
theorem parent_lt {p q : ByteArray} (h : parentV p = some q) : ltP q p = true:=by
 rcases parent_cases p with ⟨e,_⟩ | ⟨q',t,e,h',_⟩
 ·rw [e] at h; cases h
 ·rw [e] at h
  rw [← Option.some.inj h]
  exact lt_prefix h'
theorem parent_within {p q : ByteArray} (h : parentV p = some q) : withinB p q = true:=by
 rcases parent_cases p with ⟨e,_⟩ | ⟨q',t,e,h',_⟩
 ·rw [e] at h; cases h
 ·rw [e] at h
  rw [← Option.some.inj h]
  exact (within_iff _ _).mpr ⟨47 :: t,h',.inr ⟨t,rfl⟩⟩
theorem within_parent {x q : ByteArray} (h : withinB x q = true) (hne : x ≠ q) : ∃ p,parentV x = some p ∧ withinB p q = true:=by
 obtain ⟨r,hr,ho⟩:=(within_iff _ _).mp h
 rcases ho with rfl | ⟨t,rfl⟩
 ·exact absurd (data_inj (by simpa using hr)) hne
 ·rcases parent_cases x with ⟨_,hn⟩ | ⟨p,u,e,h',hu⟩
  ·exact absurd (by rw [hr]; simp) hn
  ·refine ⟨p,e,(within_iff _ _).mpr ?_⟩
   rw [hr] at h'
   rcases List.append_eq_append_iff.mp h' with ⟨a,h1,h2⟩ | ⟨a,h1,h2⟩
   ·refine ⟨a,h1,?_⟩
    cases a with
    | nil => exact .inl rfl
    | cons c a =>
     injection h2 with h3 h4
     exact .inr ⟨a,by rw [h3]⟩
   ·cases a with
    | nil => exact ⟨[],by rw [h1]; simp,.inl rfl⟩
    | cons c a =>
     injection h2 with h3 h4
     exact absurd (by rw [h4]; simp) hu
theorem within_trans {a b c : ByteArray} (h : withinB a b = true) (k : withinB b c = true) : withinB a c = true:=by
 obtain ⟨r,hr,ho⟩:=(within_iff _ _).mp h
 obtain ⟨t,ht,hp⟩:=(within_iff _ _).mp k
 refine (within_iff _ _).mpr ⟨t ++ r,by rw [hr,ht,List.append_assoc],?_⟩
 rcases hp with rfl | ⟨u,rfl⟩
 ·simpa using ho
 ·exact .inr ⟨u ++ r,rfl⟩
theorem within_size {a b : ByteArray} (h : withinB a b = true) : b.size ≤ a.size:=by
 obtain ⟨r,hr,ho⟩:=(within_iff _ _).mp h
 have:=congrArg List.length hr
 rw [List.length_append,dlen,dlen] at this
 omega
theorem within_antisymm {a b : ByteArray} (h : withinB a b = true) (k : withinB b a = true) : a = b:=by
 obtain ⟨r,hr,ho⟩:=(within_iff _ _).mp h
 have h1:=within_size h
 have h2:=within_size k
 have:=congrArg List.length hr
 rw [List.length_append,dlen,dlen] at this
 have : r = []:=List.length_eq_zero_iff.mp (by omega)
 subst this
 exact data_inj (by simpa using hr)
theorem inside_iff (x q : ByteArray) : insideB x q = true ↔ x ≠ q ∧ withinB x q = true:=by
 unfold insideB
 by_cases h : x = q
 ·simp [h]
 ·simp [h]
structure Tr (l : List S41) : Prop where
 n : l.length ≤ 1024
 s : Srt l
 t : ∀ x ∈ l,thingB x = true
 p : ∀ x ∈ l,∀ q,parentV x.f0 = some q → ∃ y ∈ l,y.f0 = q ∧ y.f1 = 1
theorem dirB_iff (l : List S41) (p : ByteArray) : dirB l p = true ↔ ∃ y ∈ l,y.f0 = p ∧ y.f1 = 1:=by
 unfold dirB
 rw [List.any_eq_true]
 simp
theorem steps_all : ∀ (r l : List S41),stepsB l r = true → ∀ x ∈ r,thingB x = true ∧ ∀ q,parentV x.f0 = some q → ∃ y ∈ l ++ r,y.f0 = q ∧ y.f1 = 1
 | [],l,_,x,hx => by cases hx
 | x :: r,l,h,z,hz => by
  simp only [stepsB,Bool.and_eq_true] at h
  obtain ⟨hn,hr⟩:=h
  rcases List.mem_cons.mp hz with rfl | hz
  ·unfold nextB at hn
   simp only [Bool.and_eq_true] at hn
   refine ⟨hn.1.1,fun q hq => ?_⟩
   have h2:=hn.2
   rw [hq] at h2
   obtain ⟨y,hy,e⟩:=(dirB_iff l q).mp h2
   exact ⟨y,List.mem_append_left _ hy,e⟩
  ·have:=steps_all r (l ++ [x]) hr z hz
   rwa [List.append_assoc] at this
theorem steps_of : ∀ (r l : List S41),Srt (l ++ r) → (∀ x ∈ r,thingB x = true) → (∀ x ∈ r,∀ q,parentV x.f0 = some q → ∃ y ∈ l ++ r,y.f0 = q ∧ y.f1 = 1) → stepsB l r = true
 | [],l,_,_,_ => rfl
 | x :: r,l,hs,ht,hp => by
  have hs' : Srt ((l ++ [x]) ++ r):=by rw [List.append_assoc]; exact hs
  obtain ⟨h1,h2,h3⟩:=srt_append.mp hs
  obtain ⟨h4,h5⟩:=srt_cons.mp h2
  simp only [stepsB,Bool.and_eq_true]
  refine ⟨?_,steps_of r (l ++ [x]) hs' (fun z hz => ht z (List.mem_cons_of_mem _ hz)) (fun z hz q hq => ?_)⟩
  ·unfold nextB
   simp only [Bool.and_eq_true]
   refine ⟨⟨ht x (by simp),?_⟩,?_⟩
   ·cases hg : l.getLast? with
    | none => rfl
    | some y => exact h3 y (List.mem_of_getLast? hg) x (by simp)
   ·cases hq : parentV x.f0 with
    | none => rfl
    | some q =>
     obtain ⟨y,hy,e1,e2⟩:=hp x (by simp) q hq
     refine (dirB_iff l q).mpr ?_
     have hlt:=parent_lt hq
     rw [← e1] at hlt
     rcases List.mem_append.mp hy with k | k
     ·exact ⟨y,k,e1,e2⟩
     ·rcases List.mem_cons.mp k with rfl | k
      ·rw [ltP_irrefl] at hlt; cases hlt
      ·have:=ltP_trans hlt (h4 y k)
       rw [ltP_irrefl] at this; cases this
  ·have:=hp z (List.mem_cons_of_mem _ hz) q hq
   rwa [List.append_assoc]
theorem tree_iff {l : List S41} : treeB l = true ↔ Tr l:=by
 unfold treeB
 rw [Bool.and_eq_true]
 constructor
 ·rintro ⟨h1,h2⟩
  have hall:=steps_all l [] h2
  exact ⟨of_decide_eq_true h1,by simpa using steps_srt l [] (by simp [Srt]) h2,fun x hx => (hall x hx).1,fun x hx => by simpa using (hall x hx).2⟩
 ·rintro ⟨h1,h2,h3,h4⟩
  exact ⟨decide_eq_true h1,steps_of l [] (by simpa using h2) h3 (fun x hx q hq => by simpa using h4 x hx q hq)⟩
theorem Tr.above {l : List S41} (h : Tr l) : ∀ (n : Nat) (x : S41),x ∈ l → x.f0.size ≤ n → ∀ q,withinB x.f0 q = true → x.f0 ≠ q → ∃ y ∈ l,y.f0 = q ∧ y.f1 = 1
 | 0,x,hx,hn,q,hw,hne => by
  obtain ⟨p,hp,_⟩:=within_parent hw hne
  have:=parentV_size hp
  omega
 | n + 1,x,hx,hn,q,hw,hne => by
  obtain ⟨p,hp,hpw⟩:=within_parent hw hne
  have hsz:=parentV_size hp
  obtain ⟨y,hy,e1,e2⟩:=h.p x hx p hp
  by_cases k : p = q
  ·exact ⟨y,hy,e1.trans k,e2⟩
  ·rw [← e1] at hpw k hsz
   exact h.above n y hy (by omega) q hpw k
theorem Tr.none_within {l : List S41} (h : Tr l) {q : ByteArray} (hq : findV l q = none) : ∀ x ∈ l,withinB x.f0 q = false:=by
 intro x hx
 cases hw : withinB x.f0 q with
 | false => rfl
 | true =>
  by_cases k : x.f0 = q
  ·exact absurd k (find_none.mp hq x hx)
  ·obtain ⟨y,hy,e,_⟩:=h.above x.f0.size x hx (Nat.le_refl _) q hw k
   exact absurd e (find_none.mp hq y hy)
theorem Tr.find {l : List S41} (h : Tr l) {q : ByteArray} : (∃ y ∈ l,y.f0 = q ∧ y.f1 = 1) ↔ ∃ y,findV l q = some y ∧ y.f1 = 1:=by
 constructor
 ·rintro ⟨y,hy,rfl,e⟩
  exact ⟨y,find_of_mem h.s hy,e⟩
 ·rintro ⟨y,hy,e⟩
  exact ⟨y,(find_mem hy).1,(find_mem hy).2,e⟩
theorem Tr.of {l : List S41} (n : l.length ≤ 1024) (s : Srt l) (t : ∀ q x,findV l q = some x → thingB x = true) (p : ∀ q x u,findV l q = some x → parentV q = some u → ∃ y,findV l u = some y ∧ y.f1 = 1) : Tr l :=
 ⟨n,s,fun x hx => t _ x (find_of_mem s hx),fun x hx q hq => by
  obtain ⟨y,hy,e⟩:=p _ x q (find_of_mem s hx) hq
  exact ⟨y,(find_mem hy).1,(find_mem hy).2,e⟩⟩
theorem Tr.thing {l : List S41} (h : Tr l) {q : ByteArray} {x : S41} (hx : findV l q = some x) : thingB x = true:=h.t x (find_mem hx).1
theorem Tr.parent {l : List S41} (h : Tr l) {q u : ByteArray} {x : S41} (hx : findV l q = some x) (hu : parentV q = some u) : ∃ y,findV l u = some y ∧ y.f1 = 1 :=
 h.find.mp (h.p x (find_mem hx).1 u (by rw [(find_mem hx).2]; exact hu))
def e0 : ByteArray:=⟨#[]⟩
def newE (p : S25) : S41:=⟨p.f1,kindV p.f0,[],e0⟩
def hunkV (l : List ByteArray) (at_ : Int) (old new : List ByteArray) : Option (List ByteArray) :=
 if 0 ≤ at_ ∧ at_.toNat + old.length ≤ l.length ∧ (l.drop at_.toNat).take old.length = old then some (l.take at_.toNat ++ new ++ l.drop (at_.toNat + old.length)) else none
def inU (c : UInt8) : Bool:=inB (c.toNat : Int)
def runs : List UInt8 → List (List UInt8)
 | [] => []
 | c :: s => match runs s with
  | (d :: r) :: rest => if inU c = inU d then (c :: d :: r) :: rest else [c] :: (d :: r) :: rest
  | _ => [[c]]
def piecesV (s : ByteArray) : List ByteArray:=(runs s.data.toList).map (fun r => ⟨r.toArray⟩)
def replV (s fr to_ : ByteArray) : ByteArray:=⟨((runs s.data.toList).flatMap (fun r => if r = fr.data.toList then to_.data.toList else r)).toArray⟩
def tokV (l : List ByteArray) (fr to_ : ByteArray) : Option (List ByteArray) :=
 if l.any (fun s => (runs s.data.toList).contains to_.data.toList) then none else some (l.map (fun s => replV s fr to_))
def changeV (x : S41) (p : S25) : Option S41 :=
 if p.f0 = 7 then (hunkV x.f2 p.f4 p.f5 p.f6).map (fun l => { x with f2:=l })
 else if p.f0 = 8 then (tokV x.f2 p.f3 p.f2).map (fun l => { x with f2:=l })
 else if x.f3 = p.f3 then some { x with f3:=p.f2 } else none
def addE (l : List S41) (p : S25) : Int:=if roomV l p.f1 = 0 then (if l.length = 1024 then 2 else 0) else roomV l p.f1
def thingAt (l : List S41) (q : ByteArray) : S41:=(findV l q).getD z41
def changeE (l : List S41) (p : S25) : Int:=if thereV l p.f1 p.f0 = 0 then (if (changeV (thingAt l p.f1) p).isSome then 0 else 81) else thereV l p.f1 p.f0
def changeL (l : List S41) (p : S25) : List S41:=setL l p.f1 ((changeV (thingAt l p.f1) p).getD z41)
def mvP (s fr to_ : ByteArray) : ByteArray:=if withinB s fr then mv s fr to_ else s
def mvX (fr to_ : ByteArray) (x : S41) : S41:={ x with f0:=mvP x.f0 fr to_ }
def moveE (l : List S41) (p : S25) : Int :=
 if (findV l p.f1).isSome then (if roomV l p.f2 = 0 then (if l.all (fun x => rightB (mvP x.f0 p.f1 p.f2)) then 0 else 41) else roomV l p.f2) else 72
def moveL (l : List S41) (p : S25) : List S41:=sortV (l.map (mvX p.f1 p.f2))
def doE (l : List S41) (p : S25) : Int :=
 if p.f0 = 10 then moveE l p else if 7 ≤ p.f0 then changeE l p else if p.f0 = 1 ∨ p.f0 = 3 ∨ p.f0 = 5 then addE l p else removeE l p.f1 p.f0
def doL (l : List S41) (p : S25) : List S41 :=
 if p.f0 = 10 then moveL l p else if 7 ≤ p.f0 then changeL l p else if p.f0 = 1 ∨ p.f0 = 3 ∨ p.f0 = 5 then insL l (newE p) else delL l p.f1
def applyE (l : List S41) (p : S25) : Int:=if treeB l && primB p then doE l p else 1
def allV : List S41 → List S25 → Nat → List S41 × Int × Nat
 | l,[],_ => (l,0,0)
 | l,p :: ps,i => if applyE l p = 0 then allV (doL l p) ps (i + 1) else ([],applyE l p,i)
def allE (l : List S41) (ps : List S25) : List S41 × Int × Nat:=if treeB l then allV l ps 0 else ([],1,0)
def Up (l : List S41) (q : ByteArray) : Prop:=∀ u,parentV q = some u → ∃ y,findV l u = some y ∧ y.f1 = 1
theorem room_zero {l : List S41} {q : ByteArray} : roomV l q = 0 ↔ findV l q = none ∧ Up l q:=by
 unfold roomV Up
 cases hf : findV l q with
 | some x => simp
 | none =>
  cases hp : parentV q with
  | none => simp
  | some u =>
   cases hg : findV l u with
   | none => simp [hg]
   | some y =>
    by_cases h1 : y.f1 = 1
    ·simp [hg,h1]
    ·simp [hg,h1]
theorem there_zero {l : List S41} {q : ByteArray} {k : Int} : thereV l q k = 0 ↔ ∃ x,findV l q = some x ∧ x.f1 = kindV k:=by
 unfold thereV
 cases hf : findV l q with
 | none => simp
 | some x =>
  by_cases h : x.f1 = kindV k
  ·simp [h]
  ·simp [h]
theorem add_zero {l : List S41} {p : S25} : addE l p = 0 ↔ findV l p.f1 = none ∧ Up l p.f1 ∧ l.length ≠ 1024:=by
 unfold addE
 by_cases h : roomV l p.f1 = 0
 ·have h':=room_zero.mp h
  by_cases k : l.length = 1024
  ·simp [h,k]
  ·simp [h,k,h'.1,h'.2]
 ·rw [if_neg h]
  constructor
  ·intro k; exact absurd k h
  ·rintro ⟨a,b,_⟩; exact absurd (room_zero.mpr ⟨a,b⟩) h
theorem toList_nil {a : ByteArray} (h : a.toList = []) : a = e0:=data_inj (by rw [← toList_data,h]; rfl)
theorem remove_zero {l : List S41} (hs : Srt l) {p : S25} : removeE l p.f1 p.f0 = 0 ↔ findV l p.f1 = some (newE p) ∧ ∀ x ∈ l,withinB x.f0 p.f1 = true → x.f0 = p.f1:=by
 unfold removeE fullB
 by_cases ht : thereV l p.f1 p.f0 = 0
 ·obtain ⟨x,hx,hk⟩:=there_zero.mp ht
  have hg:=((has_find hs p.f1).2 x hx).1
  have hp:=(find_mem hx).2
  rw [if_pos ht,hg,hx]
  have hin : (l.any (fun x => insideB x.f0 p.f1)) = false ↔ ∀ x ∈ l,withinB x.f0 p.f1 = true → x.f0 = p.f1:=by
   rw [List.any_eq_false]
   constructor
   ·intro h y hy hw
    have:=h y hy
    rw [inside_iff] at this
    exact Decidable.byContradiction fun k => this ⟨k,hw⟩
   ·intro h y hy k
    rw [inside_iff] at k
    exact k.1 (h y hy k.2)
  constructor
  ·intro h
   have h' : ((l.any (fun x => insideB x.f0 p.f1) || decide (0 < x.f2.length) || (x.f3.toList != [])) = false):=by
    cases hh : (l.any (fun x => insideB x.f0 p.f1) || decide (0 < x.f2.length) || (x.f3.toList != [])) with
    | false => rfl
    | true => rw [hh] at h; simp at h
   simp only [Bool.or_eq_false_iff,decide_eq_false_iff_not] at h'
   obtain ⟨⟨h1,h2⟩,h3⟩:=h'
   refine ⟨?_,hin.mp h1⟩
   obtain ⟨a,b,c,d⟩:=x
   simp only at hk hp h2 h3
   have h2' : c = []:=List.length_eq_zero_iff.mp (by omega)
   have h3' : d = e0:=toList_nil (by simpa using h3)
   unfold newE
   rw [← hp,hk,h2',h3']
  ·rintro ⟨h1,h2⟩
   have hx':=Option.some.inj h1
   rw [if_neg]
   rw [hin.mpr h2,hx']
   simp [newE,e0]
 ·rw [if_neg ht]
  constructor
  ·intro k; exact absurd k ht
  ·rintro ⟨h1,_⟩; exact absurd (there_zero.mpr ⟨_,h1,rfl⟩) ht
theorem change_zero {l : List S41} {p : S25} : changeE l p = 0 ↔ ∃ x y,findV l p.f1 = some x ∧ x.f1 = kindV p.f0 ∧ changeV x p = some y:=by
 unfold changeE thingAt
 by_cases ht : thereV l p.f1 p.f0 = 0
 ·obtain ⟨x,hx,hk⟩:=there_zero.mp ht
  rw [if_pos ht,hx,Option.getD_some]
  cases hc : changeV x p with
  | none =>
   simp only [Option.isSome_none]
   constructor
   ·intro h; cases h
   ·rintro ⟨x',y,h1,h2,h3⟩
    rw [← Option.some.inj h1,hc] at h3; cases h3
  | some y => exact ⟨fun _ => ⟨x,y,rfl,hk,hc⟩,fun _ => rfl⟩
 ·rw [if_neg ht]
  constructor
  ·intro k; exact absurd k ht
  ·rintro ⟨x,y,h1,h2,_⟩; exact absurd (there_zero.mpr ⟨x,h1,h2⟩) ht
theorem change_L {l : List S41} {p : S25} {x y : S41} (h1 : findV l p.f1 = some x) (h2 : changeV x p = some y) : changeL l p = setL l p.f1 y:=by
 unfold changeL thingAt
 rw [h1,Option.getD_some,h2,Option.getD_some]
theorem change_f0 {x y : S41} {p : S25} (h : changeV x p = some y) : y.f0 = x.f0 ∧ y.f1 = x.f1:=by
 unfold changeV at h
 split at h
 ·obtain ⟨l,hl,e⟩:=Option.map_eq_some_iff.mp h
  rw [← e]; exact ⟨rfl,rfl⟩
 ·split at h
  ·obtain ⟨l,hl,e⟩:=Option.map_eq_some_iff.mp h
   rw [← e]; exact ⟨rfl,rfl⟩
  ·split at h
   ·rw [← Option.some.inj h]; exact ⟨rfl,rfl⟩
   ·cases h
theorem move_zero {l : List S41} {p : S25} : moveE l p = 0 ↔ (∃ x,findV l p.f1 = some x) ∧ findV l p.f2 = none ∧ Up l p.f2 ∧ ∀ x ∈ l,rightB (mvP x.f0 p.f1 p.f2) = true:=by
 unfold moveE
 cases hf : findV l p.f1 with
 | none => simp
 | some x =>
  by_cases h : roomV l p.f2 = 0
  ·have h':=room_zero.mp h
   by_cases k : l.all (fun x => rightB (mvP x.f0 p.f1 p.f2)) = true
   ·have k':=k
    rw [List.all_eq_true] at k'
    simp only [Option.isSome_some,if_true,if_pos h,if_pos k,true_iff]
    exact ⟨⟨x,rfl⟩,h'.1,h'.2,k'⟩
   ·simp only [Option.isSome_some,if_true,if_pos h,if_neg k]
    constructor
    ·intro m; cases m
    ·rintro ⟨_,_,_,m⟩; exact absurd (List.all_eq_true.mpr m) k
  ·simp only [Option.isSome_some,if_true,if_neg h]
   constructor
   ·intro m; exact absurd m h
   ·rintro ⟨_,a,b,_⟩; exact absurd (room_zero.mpr ⟨a,b⟩) h
theorem mvP_in {s fr : ByteArray} (to_ : ByteArray) (h : withinB s fr = true) : mvP s fr to_ = mv s fr to_:=if_pos h
theorem mvP_out {s fr : ByteArray} (to_ : ByteArray) (h : withinB s fr = false) : mvP s fr to_ = s:=if_neg (by rw [h]; simp)
theorem mv_inj {s t fr to_ : ByteArray} (hs : withinB s fr = true) (ht : withinB t fr = true) (h : mv s fr to_ = mv t fr to_) : s = t:=by
 rw [← mv_back to_ hs,← mv_back to_ ht,h]
theorem mvP_inj {s t fr to_ : ByteArray} (hs : withinB s to_ = false) (ht : withinB t to_ = false) (h : mvP s fr to_ = mvP t fr to_) : s = t:=by
 cases ks : withinB s fr with
 | true =>
  cases kt : withinB t fr with
  | true => rw [mvP_in _ ks,mvP_in _ kt] at h; exact mv_inj ks kt h
  | false =>
   rw [mvP_in _ ks,mvP_out _ kt] at h
   have:=mv_within to_ ks
   rw [h,ht] at this; cases this
 | false =>
  cases kt : withinB t fr with
  | true =>
   rw [mvP_out _ ks,mvP_in _ kt] at h
   have:=mv_within to_ kt
   rw [← h,hs] at this; cases this
  | false => rw [mvP_out _ ks,mvP_out _ kt] at h; exact h
theorem move_dis {l : List S41} (hs : Srt l) {fr to_ : ByteArray} (hn : ∀ x ∈ l,withinB x.f0 to_ = false) : Dis (l.map (mvX fr to_)):=by
 unfold Dis
 rw [List.pairwise_map]
 refine List.Pairwise.imp_of_mem ?_ hs
 intro x y hx hy hlt k
 exact ltP_ne hlt (mvP_inj (hn x hx) (hn y hy) k)
theorem move_find {l : List S41} (hs : Srt l) {fr to_ : ByteArray} (hn : ∀ x ∈ l,withinB x.f0 to_ = false) (s : ByteArray) :
  findV (sortV (l.map (mvX fr to_))) s = if withinB s to_ then (findV l (mv s to_ fr)).bind (fun x => if withinB (mv s to_ fr) fr then some { x with f0:=s } else none) else if withinB s fr then none else findV l s:=by
 have hd:=move_dis hs (fr:=fr) hn
 rw [sort_find hd]
 cases ht : withinB s to_ with
 | true =>
  rw [if_pos rfl]
  have hm:=mv_within fr ht
  cases hf : findV l (mv s to_ fr) with
  | none =>
   rw [Option.bind_none]
   refine find_none.mpr fun y hy e => ?_
   obtain ⟨x,hx,rfl⟩:=List.mem_map.mp hy
   have e' : mvP x.f0 fr to_ = s:=e
   cases k : withinB x.f0 fr with
   | false => rw [mvP_out _ k] at e'; rw [← e',hn x hx] at ht; cases ht
   | true =>
    rw [mvP_in _ k] at e'
    refine find_none.mp hf x hx ?_
    rw [← e',mv_back to_ k]
  | some x =>
   rw [Option.bind_some,if_pos hm]
   obtain ⟨hx,hp⟩:=find_mem hf
   have e : mvX fr to_ x = { x with f0:=s }:=by
    unfold mvX
    rw [hp,mvP_in _ hm,mv_back fr ht]
   have:=find_dis hd (List.mem_map_of_mem (f:=mvX fr to_) hx)
   rw [e] at this
   exact this
 | false =>
  rw [if_neg (by simp)]
  cases hfr : withinB s fr with
  | true =>
   rw [if_pos rfl]
   refine find_none.mpr fun y hy e => ?_
   obtain ⟨x,hx,rfl⟩:=List.mem_map.mp hy
   have e' : mvP x.f0 fr to_ = s:=e
   cases k : withinB x.f0 fr with
   | false => rw [mvP_out _ k] at e'; rw [e',hfr] at k; cases k
   | true => rw [mvP_in _ k] at e'; have:=mv_within to_ k; rw [e',ht] at this; cases this
  | false =>
   rw [if_neg (by simp)]
   cases hf : findV l s with
   | none =>
    refine find_none.mpr fun y hy e => ?_
    obtain ⟨x,hx,rfl⟩:=List.mem_map.mp hy
    have e' : mvP x.f0 fr to_ = s:=e
    cases k : withinB x.f0 fr with
    | false => rw [mvP_out _ k] at e'; exact find_none.mp hf x hx e'
    | true => rw [mvP_in _ k] at e'; have:=mv_within to_ k; rw [e',ht] at this; cases this
   | some x =>
    obtain ⟨hx,hp⟩:=find_mem hf
    have e : mvX fr to_ x = x:=by
     unfold mvX
     rw [hp,mvP_out _ hfr,← hp]
    have:=find_dis hd (List.mem_map_of_mem (f:=mvX fr to_) hx)
    rw [e,hp] at this
    exact this
theorem prim_path {p : S25} (h : primB p = true) : rightB p.f1 = true:=by
 unfold primB at h
 simp only [Bool.and_eq_true] at h
 exact h.1.1
theorem prim_move {p : S25} (h : primB p = true) (h10 : p.f0 = 10) : rightB p.f2 = true ∧ apartB p.f1 p.f2 = true:=by
 unfold primB kindB at h
 rw [if_neg (by omega),if_neg (by omega)] at h
 by_cases h3 : p.f3.toList = ([] : List UInt8)
 ·rw [if_pos h3,if_pos h10] at h
  simp only [Bool.and_eq_true] at h
  exact h.2
 ·rw [if_neg h3,Bool.and_false] at h
  cases h
theorem prim_lines {p : S25} (h : primB p = true) (h7 : p.f0 = 7) : p.f2.toList = [] ∧ p.f3.toList = [] ∧ 0 ≤ p.f4 ∧ p.f4 ≤ 1073741824 ∧ linesB p.f5 = true ∧ linesB p.f6 = true ∧ 0 < p.f5.length + p.f6.length:=by
 unfold primB kindB at h
 rw [if_neg (by omega),if_neg (by omega)] at h
 by_cases h3 : p.f3.toList = ([] : List UInt8)
 ·rw [if_pos h3,if_neg (by omega),if_pos h7] at h
  simp only [Bool.and_eq_true,decide_eq_true_eq] at h
  obtain ⟨_,⟨⟨⟨⟨⟨a,b⟩,c⟩,d⟩,e⟩,f⟩⟩:=h
  exact ⟨a,h3,b,c,d,e,f⟩
 ·rw [if_neg h3,Bool.and_false] at h
  cases h
theorem prim_token {p : S25} (h : primB p = true) (h8 : p.f0 = 8) : tokenB p.f3 = true ∧ tokenB p.f2 = true ∧ p.f3 ≠ p.f2:=by
 unfold primB kindB at h
 rw [if_pos h8] at h
 simp only [Bool.and_eq_true] at h
 obtain ⟨_,⟨a,b⟩,c⟩:=h
 refine ⟨a,b,fun k => ?_⟩
 rw [k] at c
 simp at c
theorem kind_low {k : Int} (h1 : 1 ≤ k) (h2 : k ≤ 9) : 1 ≤ kindV k ∧ kindV k ≤ 3:=by
 have : k = 1 ∨ k = 2 ∨ k = 3 ∨ k = 4 ∨ k = 5 ∨ k = 6 ∨ k = 7 ∨ k = 8 ∨ k = 9:=by omega
 rcases this with rfl | rfl | rfl | rfl | rfl | rfl | rfl | rfl | rfl <;> decide
theorem hasNL_iff (s : ByteArray) : hasNL s = true ↔ (10 : UInt8) ∈ s.data.toList:=by
 unfold hasNL
 rw [decide_eq_true_eq]
 constructor
 ·intro h
  obtain ⟨o,ho⟩ : ∃ o : Nat,Lib.indexByte s.data.toList 10 = o:=⟨(Lib.indexByte s.data.toList 10).toNat,by omega⟩
  exact List.mem_of_getElem? (Lib.indexByte_some ho).1
 ·intro h
  have hge:=Lib.indexByte_ge s.data.toList 10
  rcases Int.lt_or_le (Lib.indexByte s.data.toList 10) 0 with k | k
  ·have k' : Lib.indexByte s.data.toList 10 = -1:=by omega
   obtain ⟨j,hj,e⟩:=List.getElem_of_mem h
   exact absurd (by rw [List.getElem?_eq_getElem hj,e]) (Lib.indexByte_none k' j)
  ·exact k
theorem lines_iff (l : List ByteArray) : linesB l = true ↔ ∀ s ∈ l,(10 : UInt8) ∉ s.data.toList:=by
 unfold linesB
 rw [Bool.not_eq_true',List.any_eq_false]
 constructor
 ·intro h s hs k
  exact h s hs ((hasNL_iff s).mpr k)
 ·intro h s hs k
  exact h s hs ((hasNL_iff s).mp k)
theorem hunk_some {l old new k : List ByteArray} {a : Int} (h : hunkV l a old new = some k) : 0 ≤ a ∧ ∃ x y,l = x ++ old ++ y ∧ x.length = a.toNat ∧ k = x ++ new ++ y:=by
 unfold hunkV at h
 split at h
 ·rename_i hc
  obtain ⟨h0,h1,h2⟩:=hc
  refine ⟨h0,l.take a.toNat,l.drop (a.toNat + old.length),?_,?_,(Option.some.inj h).symm⟩
  ·conv => lhs; rw [← List.take_append_drop a.toNat l,← List.take_append_drop old.length (l.drop a.toNat),h2,List.drop_drop]
   rw [List.append_assoc]
  ·rw [List.length_take]; omega
 ·cases h
theorem runs_ne : ∀ (s : List UInt8) (r : List UInt8),r ∈ runs s → r ≠ []
 | [],r,h => by cases h
 | c :: s,r,h => by
  unfold runs at h
  have ih:=runs_ne s
  split at h
  ·rename_i d r' rest hr
   rw [hr] at ih
   split at h
   ·rcases List.mem_cons.mp h with rfl | h
    ·simp
    ·exact ih r (List.mem_cons_of_mem _ h)
   ·rcases List.mem_cons.mp h with rfl | h
    ·simp
    ·exact ih r h
  ·rw [List.mem_singleton] at h
   rw [h]; simp
theorem runs_flat : ∀ (s : List UInt8),(runs s).flatten = s
 | [] => rfl
 | c :: s => by
  have ih:=runs_flat s
  unfold runs
  split
  ·rename_i d r' rest hr
   rw [hr] at ih
   split
   ·rw [← ih]; rfl
   ·rw [← ih]; rfl
  ·rename_i hr
   cases hs : runs s with
   | nil => rw [hs] at ih; rw [← ih]; rfl
   | cons r rest =>
    cases r with
    | nil => exact absurd rfl (runs_ne s [] (by rw [hs]; simp))
    | cons d r' => exact absurd hs (hr d r' rest)
def Uni (b : Bool) (r : List UInt8) : Prop:=r ≠ [] ∧ ∀ c ∈ r,inU c = b
def Alt : List (List UInt8) → Prop
 | [] => True
 | r :: rest => ∃ b,Uni b r ∧ (∀ r' ∈ rest.head?,Uni (!b) r') ∧ Alt rest
theorem alt_runs : ∀ (s : List UInt8),Alt (runs s)
 | [] => trivial
 | c :: s => by
  have ih:=alt_runs s
  unfold runs
  split
  ·rename_i d r' rest hr
   rw [hr] at ih
   obtain ⟨b,hu,hn,ha⟩:=ih
   have hd : inU d = b:=hu.2 d (by simp)
   split
   ·rename_i hc
    refine ⟨b,⟨by simp,fun x hx => ?_⟩,hn,ha⟩
    rcases List.mem_cons.mp hx with rfl | hx
    ·rw [hc,hd]
    ·exact hu.2 x hx
   ·rename_i hc
    refine ⟨inU c,⟨by simp,fun x hx => by rw [List.mem_singleton] at hx; rw [hx]⟩,fun r hr' => ?_,b,hu,hn,ha⟩
    rw [List.head?_cons,Option.mem_some_iff] at hr'
    rw [← hr']
    have : b = !(inU c):=by
     rw [hd] at hc
     cases b <;> cases hcc : inU c <;> simp_all
    rw [← this]; exact hu
  ·exact ⟨inU c,⟨by simp,fun x hx => by rw [List.mem_singleton] at hx; rw [hx]⟩,(fun r hr' => by cases hr'),trivial⟩
theorem runs_eq (c : UInt8) (s : List UInt8) : runs (c :: s) = match runs s with
  | (d :: r) :: rest => if inU c = inU d then (c :: d :: r) :: rest else [c] :: (d :: r) :: rest
  | _ => [[c]]:=rfl
theorem runs_cons {b : Bool} : ∀ {r : List UInt8} {s : List UInt8},Uni b r → (∀ r' ∈ (runs s).head?,Uni (!b) r') → runs (r ++ s) = r :: runs s
 | [],s,h,_ => absurd rfl h.1
 | [c],s,h,hn => by
  show runs (c :: s) = _
  have hc : inU c = b:=h.2 c (by simp)
  cases hs : runs s with
  | nil => unfold runs; rw [hs]
  | cons r' rest =>
   cases r' with
   | nil => exact absurd rfl (runs_ne s [] (by rw [hs]; simp))
   | cons d t =>
    have hd : inU d = !b:=(hn (d :: t) (by rw [hs]; rfl)).2 d (by simp)
    unfold runs
    rw [hs]
    simp only
    rw [if_neg (by rw [hc,hd]; cases b <;> simp)]
 | c :: d :: r,s,h,hn => by
  have hc : inU c = b:=h.2 c (by simp)
  have hd : inU d = b:=h.2 d (by simp)
  have ih:=runs_cons (b:=b) (r:=d :: r) (s:=s) ⟨by simp,fun x hx => h.2 x (List.mem_cons_of_mem _ hx)⟩ hn
  show runs (c :: ((d :: r) ++ s)) = _
  rw [runs_eq,ih]
  simp only
  rw [if_pos (by rw [hc,hd])]
theorem runs_of_alt : ∀ {L : List (List UInt8)},Alt L → runs L.flatten = L
 | [],_ => rfl
 | r :: rest,h => by
  obtain ⟨b,hu,hn,ha⟩:=h
  have ih:=runs_of_alt ha
  rw [List.flatten_cons,runs_cons hu (by rw [ih]; exact hn),ih]
theorem token_uni {s : ByteArray} (h : tokenB s = true) : Uni true s.data.toList:=by
 unfold tokenB at h
 rw [Bool.and_eq_true] at h
 refine ⟨fun k => ?_,fun c hc => List.all_eq_true.mp h.1 c hc⟩
 rw [toList_data,k] at h
 simp at h
theorem alt_map {f : List UInt8 → List UInt8} (hf : ∀ b r,Uni b r → Uni b (f r)) : ∀ {L : List (List UInt8)},Alt L → Alt (L.map f)
 | [],_ => trivial
 | r :: rest,h => by
  obtain ⟨b,hu,hn,ha⟩:=h
  refine ⟨b,hf b r hu,?_,alt_map hf ha⟩
  intro r' hr'
  cases rest with
  | nil => cases hr'
  | cons x rest =>
   rw [List.map_cons,List.head?_cons,Option.mem_some_iff] at hr'
   rw [← hr']
   exact hf _ _ (hn x rfl)
def repR (fr to_ : ByteArray) (r : List UInt8) : List UInt8:=if r = fr.data.toList then to_.data.toList else r
theorem rep_uni {fr to_ : ByteArray} (hf : tokenB fr = true) (ht : tokenB to_ = true) : ∀ b r,Uni b r → Uni b (repR fr to_ r):=by
 intro b r h
 unfold repR
 split
 ·rename_i e
  have h1:=token_uni hf
  have h2:=token_uni ht
  have : b = true:=by
   cases hr : r with
   | nil => exact absurd hr h.1
   | cons c r' =>
    have a1:=h.2 c (by rw [hr]; simp)
    have a2:=h1.2 c (by rw [← e,hr]; simp)
    rw [← a1,a2]
  rw [this]; exact h2
 ·exact h
theorem repl_data (s fr to_ : ByteArray) : (replV s fr to_).data.toList = ((runs s.data.toList).map (repR fr to_)).flatten:=by
 unfold replV
 simp only [List.flatMap]
 rfl
theorem repl_runs {fr to_ : ByteArray} (hf : tokenB fr = true) (ht : tokenB to_ = true) (s : ByteArray) : runs (replV s fr to_).data.toList = (runs s.data.toList).map (repR fr to_):=by
 rw [repl_data]
 exact runs_of_alt (alt_map (rep_uni hf ht) (alt_runs _))
theorem pieces_has (s t : ByteArray) : (runs s.data.toList).contains t.data.toList = true ↔ t.data.toList ∈ runs s.data.toList:=List.contains_iff_mem
theorem tok_some {l k : List ByteArray} {fr to_ : ByteArray} (h : tokV l fr to_ = some k) : (∀ s ∈ l,to_.data.toList ∉ runs s.data.toList) ∧ k = l.map (fun s => replV s fr to_):=by
 unfold tokV at h
 split at h
 ·cases h
 ·rename_i hn
  refine ⟨fun s hs hm => hn ?_,(Option.some.inj h).symm⟩
  exact List.any_eq_true.mpr ⟨s,hs,(pieces_has s to_).mpr hm⟩
theorem tok_of {l : List ByteArray} {fr to_ : ByteArray} (h : ∀ s ∈ l,to_.data.toList ∉ runs s.data.toList) : tokV l fr to_ = some (l.map (fun s => replV s fr to_)):=by
 unfold tokV
 rw [if_neg]
 intro k
 obtain ⟨s,hs,hc⟩:=List.any_eq_true.mp k
 exact h s hs ((pieces_has s to_).mp hc)
theorem token_nl {s : ByteArray} (h : tokenB s = true) : (10 : UInt8) ∉ s.data.toList:=fun hm => by
 have:=(token_uni h).2 10 hm
 revert this
 decide
theorem tok_lines {l k : List ByteArray} {fr to_ : ByteArray} (ht : tokenB to_ = true) (hl : linesB l = true) (h : tokV l fr to_ = some k) : linesB k = true:=by
 obtain ⟨h1,rfl⟩:=tok_some h
 rw [lines_iff] at hl ⊢
 intro s' hs' hm
 obtain ⟨s,hs,rfl⟩:=List.mem_map.mp hs'
 rw [repl_data] at hm
 obtain ⟨r',hr',hc⟩:=List.mem_flatten.mp hm
 obtain ⟨r,hr,rfl⟩:=List.mem_map.mp hr'
 unfold repR at hc
 split at hc
 ·exact token_nl ht hc
 ·refine hl s hs ?_
  rw [← runs_flat s.data.toList]
  exact List.mem_flatten.mpr ⟨r,hr,hc⟩
theorem hunk_lines {l old new k : List ByteArray} {a : Int} (hl : linesB l = true) (hn : linesB new = true) (h : hunkV l a old new = some k) : linesB k = true:=by
 obtain ⟨_,x,y,rfl,_,rfl⟩:=hunk_some h
 rw [lines_iff] at hl hn ⊢
 intro s hs
 rcases List.mem_append.mp hs with hs | hs
 ·rcases List.mem_append.mp hs with hs | hs
  ·exact hl s (by simp [hs])
  ·exact hn s hs
 ·exact hl s (by simp [hs])
theorem thing_iff (x : S41) : thingB x = true ↔ rightB x.f0 = true ∧ 1 ≤ x.f1 ∧ x.f1 ≤ 3 ∧ linesB x.f2 = true ∧ (x.f1 = 2 ∨ x.f2 = []) ∧ (x.f1 = 3 ∨ x.f3 = e0):=by
 unfold thingB
 simp only [Bool.and_eq_true,Bool.or_eq_true,decide_eq_true_eq]
 constructor
 ·rintro ⟨⟨⟨⟨⟨a,b⟩,c⟩,d⟩,e⟩,f⟩
  exact ⟨a,b,c,d,e.imp id List.length_eq_zero_iff.mp,f.imp id toList_nil⟩
 ·rintro ⟨a,b,c,d,e,f⟩
  exact ⟨⟨⟨⟨⟨a,b⟩,c⟩,d⟩,e.imp id (fun h => by rw [h]; rfl)⟩,f.imp id (fun h => by rw [h,toList_data]; rfl)⟩
theorem change_thing {x y : S41} {p : S25} (hp : primB p = true) (hx : thingB x = true) (h7 : 7 ≤ p.f0) (h9 : p.f0 ≤ 9) (hk : x.f1 = kindV p.f0) (h : changeV x p = some y) : thingB y = true:=by
 rw [thing_iff] at hx ⊢
 obtain ⟨a,b,c,d,e,f⟩:=hx
 have : p.f0 = 7 ∨ p.f0 = 8 ∨ p.f0 = 9:=by omega
 unfold changeV at h
 rcases this with k | k | k
 ·rw [if_pos k] at h
  obtain ⟨l,hl,rfl⟩:=Option.map_eq_some_iff.mp h
  have hk2 : x.f1 = 2:=by rw [hk,k]; rfl
  exact ⟨a,b,c,hunk_lines d (prim_lines hp k).2.2.2.2.2.1 hl,.inl hk2,f⟩
 ·rw [if_neg (by omega),if_pos k] at h
  obtain ⟨l,hl,rfl⟩:=Option.map_eq_some_iff.mp h
  have hk2 : x.f1 = 2:=by rw [hk,k]; rfl
  exact ⟨a,b,c,tok_lines (prim_token hp k).2.1 d hl,.inl hk2,f⟩
 ·rw [if_neg (by omega),if_neg (by omega)] at h
  split at h
  ·rw [← Option.some.inj h]
   have hk3 : x.f1 = 3:=by rw [hk,k]; rfl
   exact ⟨a,b,c,d,e,.inl hk3⟩
  ·cases h
theorem add_tree {l : List S41} {p : S25} (ht : Tr l) (hp : primB p = true) (h9 : p.f0 ≤ 9) (h1 : 1 ≤ p.f0) (h : addE l p = 0) : Tr (insL l (newE p)):=by
 obtain ⟨hn,hu,hl⟩:=add_zero.mp h
 have hf:=ins_find ht.s (x:=newE p) hn
 have e1 : (newE p).f0 = p.f1:=rfl
 refine Tr.of ?_ (ins_srt ht.s hn) ?_ ?_
 ·have:=ht.n
  rw [ins_len]; omega
 ·intro q x hx
  rw [hf] at hx
  split at hx
  ·rw [← Option.some.inj hx,thing_iff]
   have:=kind_low h1 h9
   exact ⟨prim_path hp,this.1,this.2,rfl,.inr rfl,.inr rfl⟩
  ·exact ht.thing hx
 ·intro q x u hx hq
  rw [hf] at hx
  have hlt:=parent_lt hq
  split at hx
  ·rename_i e
   rw [e1] at e
   subst e
   obtain ⟨y,hy,k⟩:=hu u hq
   refine ⟨y,?_,k⟩
   rw [hf,if_neg (by rw [e1]; exact ltP_ne hlt),hy]
  ·obtain ⟨y,hy,k⟩:=ht.parent hx hq
   refine ⟨y,?_,k⟩
   rw [hf,if_neg,hy]
   intro e
   rw [e1] at e
   rw [e,hn] at hy; cases hy
theorem remove_tree {l : List S41} {p : S25} (ht : Tr l) (h : removeE l p.f1 p.f0 = 0) : Tr (delL l p.f1):=by
 obtain ⟨hn,hi⟩:=(remove_zero ht.s).mp h
 have hf:=del_find ht.s hn
 refine Tr.of ?_ (del_srt ht.s _) ?_ ?_
 ·have:=del_len ht.s hn
  have:=ht.n
  omega
 ·intro q x hx
  rw [hf] at hx
  split at hx
  ·cases hx
  ·exact ht.thing hx
 ·intro q x u hx hq
  rw [hf] at hx
  split at hx
  ·cases hx
  ·rename_i hne
   obtain ⟨y,hy,k⟩:=ht.parent hx hq
   refine ⟨y,?_,k⟩
   rw [hf,if_neg,hy]
   intro e
   have hw:=parent_within hq
   rw [e] at hw
   obtain ⟨hm,e2⟩:=find_mem hx
   rw [← e2] at hw hne
   exact hne (hi x hm hw)
theorem change_tree {l : List S41} {p : S25} (ht : Tr l) (hp : primB p = true) (h7 : 7 ≤ p.f0) (h9 : p.f0 ≤ 9) (h : changeE l p = 0) : Tr (changeL l p):=by
 obtain ⟨x,y,hx,hk,hc⟩:=change_zero.mp h
 rw [change_L hx hc]
 obtain ⟨c0,c1⟩:=change_f0 hc
 have e : y.f0 = p.f1:=c0.trans (find_mem hx).2
 have hf:=set_find ht.s hx e
 refine Tr.of (by rw [set_len]; exact ht.n) (set_srt ht.s hx e) ?_ ?_
 ·intro q z hz
  rw [hf] at hz
  split at hz
  ·rw [← Option.some.inj hz]
   exact change_thing hp (ht.thing hx) h7 h9 hk hc
  ·exact ht.thing hz
 ·intro q z u hz hq
  have hpar : ∃ w,findV l q = some w:=by
   rw [hf] at hz
   split at hz
   ·rename_i e'; exact ⟨x,by rw [e',hx]⟩
   ·exact ⟨z,hz⟩
  obtain ⟨w,hw⟩:=hpar
  obtain ⟨v,hv,k⟩:=ht.parent hw hq
  by_cases e' : u = p.f1
  ·refine ⟨y,by rw [hf,if_pos e'],?_⟩
   rw [e',hx] at hv
   rw [c1,Option.some.inj hv,k]
  ·exact ⟨v,by rw [hf,if_neg e',hv],k⟩
theorem parent_mv {q to_ fr u : ByteArray} (hw : withinB q to_ = true) (hne : q ≠ to_) (hq : parentV q = some u) : withinB u to_ = true ∧ parentV (mv q to_ fr) = some (mv u to_ fr):=by
 obtain ⟨v,hv,hvw⟩:=within_parent hw hne
 rw [hq] at hv
 rw [← Option.some.inj hv] at hvw
 refine ⟨hvw,?_⟩
 rcases parent_cases q with ⟨e,_⟩ | ⟨u',t,e,hd,hnt⟩
 ·rw [e] at hq; cases hq
 ·rw [e] at hq
  have:=Option.some.inj hq
  subst this
  obtain ⟨r,hr,_⟩:=(within_iff _ _).mp hvw
  refine parent_eq (t:=t) ?_ hnt
  rw [mv_data fr hr]
  rw [hr,List.append_assoc] at hd
  rw [mv_data fr hd,List.append_assoc]
theorem move_tree {l : List S41} {p : S25} (ht : Tr l) (hp : primB p = true) (h10 : p.f0 = 10) (h : moveE l p = 0) : Tr (moveL l p):=by
 obtain ⟨⟨x0,hx0⟩,hn,hu,hr⟩:=move_zero.mp h
 obtain ⟨_,hap⟩:=prim_move hp h10
 obtain ⟨a1,a2⟩:=apart_within hap
 have hnw:=ht.none_within hn
 have hf:=move_find ht.s (fr:=p.f1) hnw
 unfold moveL
 refine Tr.of ?_ (sort_srt (move_dis ht.s hnw)) ?_ ?_
 ·rw [sort_len,List.length_map]; exact ht.n
 ·intro q x hx
  obtain ⟨hm,_⟩:=find_mem hx
  rw [sort_mem] at hm
  obtain ⟨z,hz,rfl⟩:=List.mem_map.mp hm
  have h1:=ht.t z hz
  rw [thing_iff] at h1 ⊢
  exact ⟨hr z hz,h1.2⟩
 ·intro q x u hx hq
  rw [hf] at hx
  have hlt:=parent_lt hq
  cases hqt : withinB q p.f2 with
  | true =>
   rw [hqt,if_pos rfl] at hx
   obtain ⟨z,hz,hz2⟩:=Option.bind_eq_some_iff.mp hx
   by_cases e : q = p.f2
   ·subst e
    obtain ⟨y,hy,k⟩:=hu u hq
    refine ⟨y,?_,k⟩
    have n1 : withinB u p.f2 = false:=by
     cases hh : withinB u p.f2 with
     | false => rfl
     | true =>
      have:=within_antisymm hh (parent_within hq)
      exact absurd this (ltP_ne hlt)
    have n2 : withinB u p.f1 = false:=by
     cases hh : withinB u p.f1 with
     | false => rfl
     | true => have:=within_trans (parent_within hq) hh; rw [a2] at this; cases this
    rw [hf,n1,n2,if_neg (by simp),if_neg (by simp),hy]
   ·obtain ⟨hw,hpm⟩:=parent_mv (fr:=p.f1) hqt e hq
    obtain ⟨y,hy,k⟩:=ht.parent hz hpm
    refine ⟨{ y with f0:=u },?_,k⟩
    rw [hf,hw,if_pos rfl,hy,Option.bind_some,if_pos (mv_within p.f1 hw)]
  | false =>
   rw [hqt,if_neg (by simp)] at hx
   split at hx
   ·cases hx
   ·rename_i hqf
    obtain ⟨y,hy,k⟩:=ht.parent hx hq
    refine ⟨y,?_,k⟩
    have n1 : withinB u p.f2 = false:=by
     cases hh : withinB u p.f2 with
     | false => rfl
     | true => have:=within_trans (parent_within hq) hh; rw [hqt] at this; cases this
    have n2 : withinB u p.f1 = false:=by
     cases hh : withinB u p.f1 with
     | false => rfl
     | true => exact absurd (within_trans (parent_within hq) hh) hqf
    rw [hf,n1,n2,if_neg (by simp),if_neg (by simp),hy]
theorem do_tree {l : List S41} {p : S25} (ht : Tr l) (hp : primB p = true) (h : doE l p = 0) : Tr (doL l p):=by
 obtain ⟨h1,h2⟩:=primB_lo hp
 unfold doE at h
 unfold doL
 by_cases h10 : p.f0 = 10
 ·rw [if_pos h10] at h ⊢
  exact move_tree ht hp h10 h
 ·rw [if_neg h10] at h ⊢
  by_cases h7 : 7 ≤ p.f0
  ·rw [if_pos h7] at h ⊢
   exact change_tree ht hp h7 (by omega) h
  ·rw [if_neg h7] at h ⊢
   by_cases ha : p.f0 = 1 ∨ p.f0 = 3 ∨ p.f0 = 5
   ·rw [if_pos ha] at h ⊢
    exact add_tree ht hp (by omega) h1 h
   ·rw [if_neg ha] at h ⊢
    exact remove_tree ht h
theorem apply_zero {l : List S41} {p : S25} : applyE l p = 0 ↔ Tr l ∧ primB p = true ∧ doE l p = 0:=by
 unfold applyE
 by_cases ht : treeB l = true
 ·by_cases hp : primB p = true
  ·rw [if_pos (by rw [ht,hp]; rfl)]
   exact ⟨fun h => ⟨tree_iff.mp ht,hp,h⟩,fun h => h.2.2⟩
  ·rw [if_neg (by rw [ht]; simpa using hp)]
   exact ⟨(fun h => by cases h),fun h => absurd h.2.1 hp⟩
 ·rw [if_neg (by rw [Bool.and_eq_true]; exact fun k => ht k.1)]
  exact ⟨(fun h => by cases h),fun h => absurd (tree_iff.mpr h.1) ht⟩
theorem apply_tree {l : List S41} {p : S25} (h : applyE l p = 0) : Tr (doL l p):=by
 obtain ⟨a,b,c⟩:=apply_zero.mp h
 exact do_tree a b c
open Go.RowKit Go.Shelf Go.Proofs.YthhohbidjhcjeaaGreatDoor.Q Go.Proofs.YthhohbidjhcjeaaGreatDoorW.PrintWords Go.Proofs.YthhohbidjhcjeaaGreatDoorW.PrintLast Go.Proofs.YthhohbidjhcjeaaGreatDoorW.PrintMore
theorem run_copy4 (w : World) (ty : TypeId) (b o dLen dCap : Nat) (a : Addr) (sLen sCap : Nat) (cs : List Value) (hn : cs.length = Nat.min sLen dLen * 4)
  (hsrc : ∀ j v,cs[j]? = some v → w.cell? (a.add j) = some v) (hc : ∀ j,j < cs.length → (w.cell? ⟨b,o + j,none⟩).isSome = true) (hf : ∀ j,j < cs.length → w.frozen? ⟨b,o + j,none⟩ = false) (h1 : ∀ v ∈ cs,v.oneCell' = true) :
  (Builtin.copy_ #[22,22] ty #[.slice (some ⟨b,o,none⟩) dLen dCap,.slice (some a) sLen sCap]).run Tryz.prog w = .ok (goInt (Nat.min sLen dLen)) (w.setCells b o cs):=by
 obtain ⟨i0,hi,hz0,hz1,hz2⟩:=info_parts info41
 have hl:=run_loadCells_list (P:=Tryz.prog) w a cs hsrc
 have hst:=run_storeCells_cells (P:=Tryz.prog) b o cs 0 w (by simpa using hc) (by simpa using hf) h1
 simp [Builtin.copy_,run_underlying Tryz.underlying22,Builtin.lenOf,Builtin.firstCells,sizeOf,typeInfo,hi,hz1,← hn,hl,hst]
theorem wp_copy4 (w : World) {o : Oper} {a : Act} {K : Act → World → Prop} {Q : Exit → Act → World → Prop} (d s : Operand) (t t' : TypeId)
  (ho : o.op = .call { callee:=.builtin .copy,args:=#[d,s],argTypes:=#[t,t'] }) (v u : Value) (hd : a.eval d = v) (hs : a.eval s = u) {v' : Value} {w' : World}
  (hr : (Builtin.copy_ #[t,t'] o.type #[v,u]).run Tryz.prog w = .ok v' w') (h : K (a.put o.dst v') w') : o.wp Tryz.prog a w K Q:=by
 unfold Oper.wp execOp
 simp only [ho,resolve,invoke,builtin,Sem.run_bind,Sem.run_pure,Result.andThen_ok,List.map_toArray,List.map_cons,List.map_nil,hd,hs,hr]
 exact h
theorem wpList_copy4 (w : World) {ops : Array Oper} {rest : List Oper} {o : Oper} {a : Act} {Q : Exit → Act → World → Prop} (hgd : o.guard = none) (d s : Operand) (t t' : TypeId)
  (ho : o.op = .call { callee:=.builtin .copy,args:=#[d,s],argTypes:=#[t,t'] }) (v u : Value) (hd : a.eval d = v) (hs : a.eval s = u) {v' : Value} {w' : World}
  (hr : (Builtin.copy_ #[t,t'] o.type #[v,u]).run Tryz.prog w = .ok v' w') (h : wpList Tryz.prog ops Q rest (a.put o.dst v') w') : wpList Tryz.prog ops Q (o :: rest) a w :=
 wpList_plain hgd fun _ hK => wp_copy4 w d s t t' ho v u hd hs hr (hK _ _ h)
theorem step_copy4 {ops : Array Oper} {o : Oper} {a : Act} {w : World} {K : Act → World → Prop} {Q : Exit → Act → World → Prop} {E : Prop}
  (hg : o.guard = none) (d x : Operand) (dT sT : TypeId) (hop : o.op = Op.call { callee:=Callee.builtin Builtin.copy,args:=#[d,x],argTypes:=#[dT,sT] })
  (v u : Value) (hd : a.eval d = v) (hx : a.eval x = u) {v' : Value} {w' : World} (hr : (Builtin.copy_ #[dT,sT] o.type #[v,u]).run Tryz.prog w = .ok v' w') (hK : K (a.put o.dst v') w') :
  if Region.wanted o (yielded ops a.tmps) = true then Oper.wp Tryz.prog o a w K Q else E:=by
 have hw : Region.wanted o (yielded ops a.tmps) = true:=by simp [Region.wanted,hg]
 rw [if_pos hw]
 unfold Oper.wp
 simp [execOp,hop,resolve,invoke,builtin,hd,hx,hr,Result.andThen]
 exact hK
theorem wrap64_same {i : Int} (h0 : -9223372036854775808 ≤ i) (h : i ≤ 9223372036854775807) : IntKind.i64.wrap i = i:=by rw [IntKind.wrap_i64]; omega
theorem reps_mid {w : World} {l : List S41} {inner cs : List Value} {x : S41} (hr : Reps (Rw w) 4 l inner) (hx : Rw w x cs) (hcs : cs.length = 4) (i : Nat) (hi : i ≤ l.length) : Reps (Rw w) 4 (l.take i ++ x :: l.drop i) (inner.take (i * 4) ++ (cs ++ inner.drop (i * 4))):=by
 have h1:=Kd.reps_take hr hi
 have h2 : Reps (Rw w) 4 (l.drop i) (inner.drop (i * 4)):=Kd.reps_drop hr
 have h3 : Reps (Rw w) 4 [x] ([] ++ cs):=(Reps.none (Rw w) 4).snoc hx hcs
 exact Kd.reps_append h1 (Kd.reps_append (ps:=[x]) h3 h2)
theorem own_close {w W2 : World} {g cap n : Nat} {cur2 : Array Value} {ll : List S41} {inner' : List Value} (hg : w.heap.size ≤ g) (hh2 : W2.heap[g]? = some (.cells cur2 41 (0,0))) (hsz : cur2.size = cap * 4) (hn : ll.length = n) (hnc : n ≤ cap) (hcap : cap ≤ maxLen)
  (ht : cur2.toList.take (n * 4) = inner') (hr : Reps (Rw w) 4 ll inner') : ReadsRow (Rw w) 4 W2 (some ⟨g,0,none⟩) n ll:=by
 have hown : OwnRow (Rw w) 41 4 W2 w.heap.size (.slice (some ⟨g,0,none⟩) n cap) ll:=⟨inner',⟨hr.1,Or.inr ⟨g,cap,cur2,by rw [hn],hg,hh2,by rw [hn]; exact hnc,hcap,hsz,by rw [hn]; exact ht⟩⟩,hr⟩
 obtain ⟨A',c',he,hc',hrr⟩:=OwnRow.reads hown
 injection he with e1 e2 e3
 rw [← e1,hn] at hrr
 exact hrr
theorem far_cells {g vb : Nat} {o : Array Value} {t : TypeId} (hne : vb ≠ g) : ∀ (vs : List Value) (p : Nat) (u : World),u.heap[vb]? = some (.cells o t (0,0)) → (u.setCells g p vs).heap[vb]? = some (.cells o t (0,0))
 | [],_,_,h => h
 | v :: r,p,u,h => far_cells hne r (p + 1) _ (blk_far h hne _)
set_option maxHeartbeats 8000000 in
set_option maxRecDepth 1000000 in
theorem insert_at (w : World) (l : List S41) (v : Value) (i : Nat) (x : S41) (W : World) (vb : Nat) (ca : Array Value) (hrow : Row w W v l) (hB : Below w.heap.size w W) (hi : i ≤ l.length) (hl : l.length ≤ 1000000000)
  (hv : W.heap[vb]? = some (.cells ca 41 (0,0))) (hx : Rw w x ca.toList) (hne : v.ownBlock ≠ some vb) :
  Calls Tryz.prog 93 #[v,.int .i64 i,.slice (some ⟨vb,0,none⟩) 1 1] W fun e W' => ∃ A c,e = .returned (.slice A (l.length + 1) c) ∧ l.length + 1 ≤ c ∧ ReadsRow (Rw w) 4 W' A (l.length + 1) (l.take i ++ x :: l.drop i) ∧ Below w.heap.size w W':=by
 have hcl : ca.toList.length = 4:=by obtain ⟨X,c,e,_⟩:=hx; rw [e]; rfl
 have hc1 : ∀ u ∈ ca.toList,u.oneCell' = true:=by obtain ⟨X,c,e,_⟩:=hx; rw [e]; exact rw_one
 have hvc : ∀ j u,ca.toList[j]? = some u → W.cell? ((⟨vb,0,none⟩ : Addr).add j) = some u:=by
  intro j u hu
  rw [Addr.add_lit,Nat.zero_add,blk_cell hv]
  simpa using hu
 obtain ⟨inner,⟨hlen,ho⟩,hr⟩:=hrow
 obtain ⟨n,hn⟩ : ∃ n,l.length = n:=⟨_,rfl⟩
 have HM:=Aside0.mk (reps_mid hr hx hcl i hi)
 have HML : Aside0 ((l.take i ++ x :: l.drop i).length = n + 1):=⟨by rw [List.length_append,List.length_cons,List.length_take,List.length_drop]; omega⟩
 have HIL : Aside0 (inner.length = n * 4):=⟨by rw [hlen,hn]⟩
 have HR:=Aside0.mk hr
 have HV:=Aside0.mk hv
 have HVC:=Aside0.mk hvc
 have HCL:=Aside0.mk hcl
 have HC1:=Aside0.mk hc1
 have HX:=Aside0.mk hx
 have HN:=Aside0.mk hn
 have HB:=Aside0.mk hB
 have HSZ:=Aside0.mk hB.size
 have HONE:=Aside0.mk (reps_one hr)
 obtain ⟨i0,hi0,hz0,hz1,hz2⟩:=info_parts info41
 have HI0:=Aside0.mk hi0
 have HZ0:=Aside0.mk hz0
 have HZ1:=Aside0.mk hz1
 have HZ2:=Aside0.mk hz2
 have N1 : Aside0 (n + 1 ≤ maxLen):=⟨by unfold maxLen; omega⟩
 have N2 : Aside0 ((n + 1) * 64 ≤ 140737488355328):=⟨Nat.le_trans (Nat.mul_le_mul_right 64 (show n + 1 ≤ 1000000001 by omega)) (by decide)⟩
 have mixed : Tryz.prog.follows Departure.mixedOrders = true:=by kernel_rfl
 have ho':=ho
 rw [hn] at ho'
 have OWN : Aside0 (W.ownsRow w.heap.size 41 4 v n inner):=⟨⟨by rw [hlen,hn],ho'⟩⟩
 rw [hn]
 rw [hn] at ho
 have hin : (i : Int) ≤ (n : Int):=by omega
 have hi00 : (0 : Int) ≤ (i : Int):=by omega
 by_cases hin2 : i = n
 ·have hend : ∀ (v' : Value) (w' : World),w'.ownsRow w.heap.size 41 4 v' (n + 1) (inner ++ ca.toList) → W.grownBy w' v.ownBlock → ∃ A c,v' = .slice A (n + 1) c ∧ n + 1 ≤ c ∧ ReadsRow (Rw w) 4 w' A (n + 1) (l.take i ++ x :: l.drop i) ∧ Below w.heap.size w w':=by
   intro v' w' hown hg
   have hi4 : inner.take (i * 4) ++ (ca.toList ++ inner.drop (i * 4)) = inner ++ ca.toList:=by
    rw [List.take_of_length_le (by rw [HIL.out,hin2]; exact Nat.le_refl _),List.drop_of_length_le (by rw [HIL.out,hin2]; exact Nat.le_refl _),List.append_nil]
   have hm:=HM.out
   rw [hi4] at hm
   have hor : OwnRow (Rw w) 41 4 w' w.heap.size v' (l.take i ++ x :: l.drop i):=⟨_,by rw [HML.out]; exact hown,hm⟩
   obtain ⟨A,c,rfl,hc,hrr⟩:=OwnRow.reads hor
   rw [HML.out] at hc hrr
   refine ⟨A,c,by rw [HML.out],hc,hrr,HB.out.grown hg HSZ.out ?_⟩
   intro k hk
   rcases OWN.out.2 with ⟨e,_⟩ | ⟨g,cap,cur,e,hg2,_⟩
   ·rw [e] at hk; simp [Value.ownBlock] at hk
   ·rw [e] at hk; simp [Value.ownBlock] at hk; omega
  have HEND:=Aside0.mk hend
  have heq : ((i : Int) == (n : Int)) = true:=by rw [beq_iff_eq]; omega
  rcases ho with ⟨rfl,h0⟩ | ⟨g,cap,cur,rfl,hg,hh,hnc,hcm,hcs,ht⟩
  ·have hn0 : n = 0:=by omega
   subst hn0
   subst hin2
   clear hr hx hcl hc1 hvc hv hlen hB hi0 hz0 hz1 hz2 hend
   go_enter Tryz.func93,Tryz.ntmps93
   go_wp2_with (at_builtin; refine wpList_append_own_at _ rfl _ _ 22 rfl w.heap.size 41 i0 _ 4 64 Tryz.underlying22 HI0.out HZ0.out HZ1.out HZ2.out rfl (by omega) _ _ _ rfl OWN.out ⟨vb,0,none⟩ 1 1 _ rfl (by rw [HCL.out]) HVC.out HC1.out N1.out N2.out HSZ.out ?_)
   all_goals
    intro v' w' hown hgr _ _
    obtain ⟨A,c,rfl,hc,hrr,hb⟩:=HEND.out v' w' hown hgr
    go_wp2
    go_ret
    exact ⟨A,c,rfl,hc,hrr,hb⟩
  ·subst hin2
   have hcap : cap ≤ 9223372036854775807:=hcm
   have hnc' : i ≤ cap:=by omega
   clear hr hx hcl hc1 hvc hv hlen hB hi0 hz0 hz1 hz2 hend hh ht hcs hcm hnc
   go_enter Tryz.func93,Tryz.ntmps93
   go_wp2_with (at_builtin; refine wpList_append_own_at _ rfl _ _ 22 rfl w.heap.size 41 i0 _ 4 64 Tryz.underlying22 HI0.out HZ0.out HZ1.out HZ2.out rfl (by omega) _ _ _ rfl OWN.out ⟨vb,0,none⟩ 1 1 _ rfl (by rw [HCL.out]) HVC.out HC1.out N1.out N2.out HSZ.out ?_)
   all_goals
    intro v' w' hown hgr _ _
    obtain ⟨A,c,rfl,hc,hrr,hb⟩:=HEND.out v' w' hown hgr
    go_wp2
    go_ret
    exact ⟨A,c,rfl,hc,hrr,hb⟩
 ·have hlt : i < n:=by omega
  rcases ho with ⟨rfl,h0⟩ | ⟨g,cap,cur,rfl,hg,hh,hnc,hcm,hcs,ht⟩
  ·omega
  ·have hgv : g ≠ vb:=fun e => hne (by rw [← e]; rfl)
   have hgv' : vb ≠ g:=hgv.symm
   have hcap : cap ≤ 9223372036854775807:=hcm
   have hnc' : (n : Int) ≤ (cap : Int):=by omega
   have heq : ((i : Int) == (n : Int)) = false:=by rw [beq_eq_false_iff_ne]; omega
   have HH:=Aside0.mk hh
   have HCS:=Aside0.mk hcs
   have HT : Aside0 (cur.toList.take (n * 4) = inner):=⟨ht⟩
   have HG:=Aside0.mk hg
   have hcell : ∀ p u,inner[p]? = some u → W.cell? ⟨g,p,none⟩ = some u:=by
    intro p u hp
    rw [← HT.out,List.getElem?_take] at hp
    split at hp
    ·exact (blk_cell HH.out p).trans (by simpa using hp)
    ·cases hp
   have HCELL:=Aside0.mk hcell
   have D1 : Aside0 ((inner.drop (i * 4)).length = (n - i) * 4):=⟨by rw [List.length_drop,HIL.out]; omega⟩
   have hw1 : IntKind.i64.wrap ((i : Int) + 1) = (i : Int) + 1:=wrap_small _ (by omega) (by omega)
   have hw2 : IntKind.i64.wrap ((n : Int) + 1) = (n : Int) + 1:=wrap_small _ (by omega) (by omega)
   have hb1 : (0 : Int) ≤ (i : Int) + 1:=by omega
   have hb2 : (0 : Int) ≤ (n : Int) + 1:=by omega
   have hb3 : (i : Int) + 1 ≤ (n : Int) + 1:=by omega
   have hb4 : (i : Int) ≤ (n : Int) + 1:=by omega
   have hb5 : (0 : Int) ≤ (n : Int):=by omega
   have hci : (cap = i) = False:=eq_false (by omega)
   by_cases hroom : n + 1 ≤ cap
   ·have hgt : decide ((cap : Int) < (n : Int) + 1) = false:=decide_eq_false (by omega)
    have hroom' : (n : Int) + 1 ≤ (cap : Int):=by omega
    have hci1 : (cap = i + 1) = False:=eq_false (by omega)
    have hsz4 : ∀ w,(Go.sizeOf 41).run Tryz.prog w = .ok 4 w:=fun w => by simp [Go.sizeOf,Go.typeInfo,hi0,hz1]
    have hov : ∀ lb cb,(callFunc 131 #[.slice (some ⟨vb,0,none⟩) 1 1,.slice (some ⟨g,(i + 1) * 4,none⟩) lb cb]).run Tryz.prog W = .ok (.value (.bool false)) W:=fun lb cb => by
     rw [run_callFunc_extern Tryz.func131 (by kernel_rfl) (by kernel_rfl) (by kernel_rfl) (e:=Extern.SlicesOverlaps.overlaps #[22,22] #[4]) (by kernel_rfl),
      Lib.run_overlaps_apart W 22 4 41 Tryz.underlying22 4 hsz4 ⟨vb,0,none⟩ ⟨g,(i + 1) * 4,none⟩ 1 1 lb cb hgv' 41 41 ca.size cur.size (by simp [World.shape?,HV.out]) (by simp [World.shape?,HH.out]) (by rw [HCS.out]; omega) (blk_frozen HV.out _) (blk_frozen HV.out _)]
     rfl
    have hcp1 : ∀ ty dc sc,(Builtin.copy_ #[22,22] ty #[.slice (some ⟨g,(i + 1) * 4,none⟩) (n - i) dc,.slice (some ⟨g,i * 4,none⟩) (n + 1 - i) sc]).run Tryz.prog W.drew = .ok (goInt (n - i)) (W.drew.setCells g ((i + 1) * 4) (inner.drop (i * 4))):=fun ty dc sc => by
     have h:=run_copy4 W.drew ty g ((i + 1) * 4) (n - i) dc ⟨g,i * 4,none⟩ (n + 1 - i) sc (inner.drop (i * 4)) (by rw [D1.out]; simp only [Nat.min_def]; split <;> omega)
      (fun j v hj => by rw [Addr.add_lit]; rw [List.getElem?_drop] at hj; exact HCELL.out _ v hj)
      (fun j hj => by rw [D1.out] at hj; rw [show W.drew.cell? ⟨g,(i + 1) * 4 + j,none⟩ = W.cell? ⟨g,(i + 1) * 4 + j,none⟩ from rfl,blk_cell HH.out,Array.getElem?_eq_getElem (by rw [HCS.out]; omega)]; rfl) (fun j hj => blk_frozen (w:=W.drew) HH.out _) (fun v hv => HONE.out v (List.mem_of_mem_drop hv))
     rw [h]
     congr 2
     simp only [Nat.min_def]; split <;> omega
    obtain ⟨W1,hW1⟩ : ∃ W1,W1 = W.drew.setCells g ((i + 1) * 4) (inner.drop (i * 4)):=⟨_,rfl⟩
    rw [← hW1] at hcp1
    obtain ⟨cur1,hh1,hcs1,hl1⟩:=setCells_row (inner.drop (i * 4)) ((i + 1) * 4) W.drew cur HH.out (by rw [D1.out,HCS.out]; omega)
    rw [← hW1] at hh1
    have hB1 : Below W.heap.size W.drew W1 → True:=fun _ => trivial
    have hv1 : W1.heap[vb]? = some (.cells ca 41 (0,0)):=by
     rw [hW1]
     exact far_cells hgv' _ _ _ HV.out
    have hcp2 : ∀ ty dc,(Builtin.copy_ #[22,22] ty #[.slice (some ⟨g,i * 4,none⟩) (n + 1 - i) dc,.slice (some ⟨vb,0,none⟩) 1 1]).run Tryz.prog W1 = .ok (goInt 1) (W1.setCells g (i * 4) ca.toList):=fun ty dc => by
     have h:=run_copy4 W1 ty g (i * 4) (n + 1 - i) dc ⟨vb,0,none⟩ 1 1 ca.toList (by rw [HCL.out]; simp only [Nat.min_def]; split <;> omega)
      (fun j v hj => by rw [Addr.add_lit,Nat.zero_add,blk_cell hv1]; simpa using hj)
      (fun j hj => by rw [HCL.out] at hj; rw [blk_cell hh1,Array.getElem?_eq_getElem (by rw [hcs1,HCS.out]; omega)]; rfl) (fun j hj => blk_frozen hh1 _) HC1.out
     rw [h]
     congr 2
     simp only [Nat.min_def]; split <;> omega
    have HH1:=Aside0.mk hh1
    have HCS1:=Aside0.mk hcs1
    have HL1:=Aside0.mk hl1
    have HW1:=Aside0.mk hW1
    clear hr hx hcl hc1 hvc hv hlen hB hi0 hz0 hz1 hz2 hh ht hcs hcm hnc hg hcell hh1 hcs1 hl1 hB1 hv1 hsz4 hW1
    go_enter Tryz.func93,Tryz.ntmps93
    go_wp2_with (simp only [hov])
    go_region_law_o (refine step_copy4 rfl _ _ 22 22 rfl _ _ (by simp [Act.eval,Act.put]) (by simp [Act.eval,Act.put]) (hcp1 _ _ _) ?_)
    go_wp2_with (at_builtin; refine wpList_copy4 _ rfl _ _ 22 22 rfl _ _ rfl rfl (hcp2 _ _) ?_)
    go_ret
    obtain ⟨cur2,hh2,hcs2,hl2⟩:=setCells_row ca.toList (i * 4) W1 cur1 HH1.out (by rw [HCL.out,HCS1.out,HCS.out]; omega)
    have hcl4 : cur.toList.length = cap * 4:=by rw [Array.length_toList,HCS.out]
    have htk : cur.toList.take (i * 4) = inner.take (i * 4):=by rw [← HT.out,List.take_take,Nat.min_eq_left (by omega)]
    have e1 : cur1.toList.take (i * 4) = inner.take (i * 4):=by
     rw [HL1.out,List.append_assoc,List.take_append_of_le_length (by rw [List.length_take,hcl4]; omega),List.take_take,Nat.min_eq_left (by omega),htk]
    have e2 : cur1.toList.drop (i * 4 + 4) = inner.drop (i * 4) ++ cur.toList.drop ((i + 1) * 4 + (inner.drop (i * 4)).length):=by
     rw [HL1.out,List.append_assoc,List.drop_left' (by rw [List.length_take,hcl4]; omega)]
    have htake : cur2.toList.take ((n + 1) * 4) = inner.take (i * 4) ++ (ca.toList ++ inner.drop (i * 4)):=by
     rw [hl2,HCL.out,e1,e2,← List.append_assoc,List.take_left' (by simp only [List.length_append,List.length_take,HIL.out,HCL.out,D1.out]; omega),List.append_assoc]
    exact ⟨_,_,rfl,hroom,own_close HG.out hh2 (by rw [hcs2,HCS1.out,HCS.out]) HML.out hroom hcap htake HM.out,below_cells HG.out _ _ _ (by rw [HW1.out]; exact below_cells HG.out _ _ _ (below_drew HB.out))⟩
   ·obtain rfl : cap = n:=by omega
    have hgt : decide ((cap : Int) < (cap : Int) + 1) = true:=decide_eq_true (by omega)
    have hz3 : (cap : Int) < (cap : Int) + 1:=by omega
    have hkk : (cap : Int) + 1 - (i : Int) = ((cap + 1 - i : Nat) : Int):=by omega
    have hik : i + (cap + 1 - i) = cap + 1:=by omega
    have hgw : g < W.heap.size:=blk_lt hh
    have hvw : vb < W.heap.size:=blk_lt hv
    have hil : (inner.take (i * 4)).length = i * 4:=by rw [List.length_take,HIL.out]; omega
    have hold : (Builtin.firstCells i0.size i (.slice (some ⟨g,0,none⟩) i cap)).run Tryz.prog W.drew = .ok (inner.take (i * 4)).toArray W.drew:=by
     rw [hz1]
     exact run_firstCells_some W.drew 4 i ⟨g,0,none⟩ i cap (inner.take (i * 4)) hil (fun j v hj => by
      rw [Addr.add_lit,Nat.zero_add]
      rw [List.getElem?_take] at hj
      split at hj
      ·exact HCELL.out j v hj
      ·cases hj)
    have hbg : Builtin.nextslicecap (cap + 1) cap * i0.bytes ≤ 281474976710656:=by
     rw [hz2]
     exact growslice_fits (show cap < cap + 1 by omega) N2.out
    have hk64 : (cap + 1 - i) * i0.bytes ≤ 281474976710656:=by
     rw [hz2]
     exact Nat.le_trans (Nat.mul_le_mul_right 64 (show cap + 1 - i ≤ cap + 1 by omega)) (Nat.le_trans N2.out (by decide))
    have hrz : ∀ ty,(Builtin.append_ #[22,3] ty #[.slice (some ⟨g,0,none⟩) i cap,.int .i64 ((cap : Int) + 1 - (i : Int))]).run Tryz.prog W =
      .ok (.slice (some ⟨W.heap.size,0,none⟩) (cap + 1) (grownCap W (cap + 1) cap 41)) (W.drew.alloc (.cells ((inner.take (i * 4)).toArray ++ Builtin.zeroCells (Value.agg #[.string ⟨#[]⟩,.int .i64 0,.slice none 0 0,.string ⟨#[]⟩]).cells (cap + 1 - i) ++ Builtin.zeroCells (Value.agg #[.string ⟨#[]⟩,.int .i64 0,.slice none 0 0,.string ⟨#[]⟩]).cells (grownCap W (cap + 1) cap 41 - (cap + 1))) 41)):=fun ty => by
     have h:=Lib.run_append_grow_zeros W 22 3 ty 41 i0 _ .i64 .i64 Tryz.underlying22 Tryz.underlying3 hi0 hz0 (some ⟨g,0,none⟩) i cap (inner.take (i * 4)) hold (cap + 1 - i) (by omega) (by omega) (by omega) (by omega) hk64 (by rw [hik]; exact hbg)
     rw [hik] at h
     rw [hkk]
     exact h
    obtain ⟨G,hG⟩ : ∃ G,G = grownCap W (cap + 1) cap 41:=⟨_,rfl⟩
    obtain ⟨ROW,hROW⟩ : ∃ ROW : Array Value,ROW = (inner.take (i * 4)).toArray ++ Builtin.zeroCells (Value.agg #[.string ⟨#[]⟩,.int .i64 0,.slice none 0 0,.string ⟨#[]⟩]).cells (cap + 1 - i) ++ Builtin.zeroCells (Value.agg #[.string ⟨#[]⟩,.int .i64 0,.slice none 0 0,.string ⟨#[]⟩]).cells (G - (cap + 1)):=⟨_,rfl⟩
    rw [← hG] at hrz
    rw [← hROW] at hrz
    have hGn : cap + 1 ≤ G:=by rw [hG]; exact grownCap_ge W _ _ _
    have hG63 : G ≤ 9223372036854775807:=by
     have:=grownCap_le_maxLen W (cap + 1) cap 41 N1.out
     rw [← hG] at this
     exact this
    have hRs : ROW.size = G * 4:=by
     rw [hROW]
     simp [Builtin.zeroCells,Value.cells,HIL.out]
     omega
    have hRt : ROW.toList.take (i * 4) = inner.take (i * 4):=by
     rw [hROW]
     simp only [Array.toList_append,List.toList_toArray,List.append_assoc]
     exact List.take_left' hil
    obtain ⟨W1,hW1⟩ : ∃ W1,W1 = W.drew.alloc (.cells ROW 41):=⟨_,rfl⟩
    have hh1 : W1.heap[W.heap.size]? = some (.cells ROW 41 (0,0)):=by rw [hW1]; exact blk_new _ _
    have hv1 : W1.heap[vb]? = some (.cells ca 41 (0,0)):=by rw [hW1]; exact blk_alloc (w:=W.drew) hv _
    have hg1 : W1.heap[g]? = some (.cells cur 41 (0,0)):=by rw [hW1]; exact blk_alloc (w:=W.drew) hh _
    rw [← hW1] at hrz
    have hcpA : ∀ (U : World),(∀ x,U.cell? x = W1.cell? x) → (∀ x,U.frozen? x = W1.frozen? x) → ∀ ty dc,(Builtin.copy_ #[22,22] ty #[.slice (some ⟨W.heap.size,i * 4,none⟩) (cap + 1 - i) dc,.slice (some ⟨vb,0,none⟩) 1 1]).run Tryz.prog U = .ok (goInt 1) (U.setCells W.heap.size (i * 4) ca.toList):=fun U hUc hUf ty dc => by
     have h:=run_copy4 U ty W.heap.size (i * 4) (cap + 1 - i) dc ⟨vb,0,none⟩ 1 1 ca.toList (by rw [HCL.out]; simp only [Nat.min_def]; split <;> omega)
      (fun j v hj => by rw [Addr.add_lit,Nat.zero_add,hUc,blk_cell hv1]; simpa using hj)
      (fun j hj => by rw [HCL.out] at hj; rw [hUc,blk_cell hh1,Array.getElem?_eq_getElem (by rw [hRs]; omega)]; rfl) (fun j hj => by rw [hUf]; exact blk_frozen hh1 _) HC1.out
     rw [h]
     congr 2
     simp only [Nat.min_def]; split <;> omega
    obtain ⟨cur1,hh2,hcs1,hl1⟩:=setCells_row ca.toList (i * 4) W1 ROW hh1 (by rw [HCL.out,hRs]; omega)
    have hgN : g ≠ W.heap.size:=by omega
    have hg2 : (W1.setCells W.heap.size (i * 4) ca.toList).heap[g]? = some (.cells cur 41 (0,0)):=far_cells hgN _ _ _ hg1
    have hcpB : ∀ (U : World),(∀ x,U.cell? x = (W1.setCells W.heap.size (i * 4) ca.toList).cell? x) → (∀ x,U.frozen? x = (W1.setCells W.heap.size (i * 4) ca.toList).frozen? x) → ∀ ty dc sc,(Builtin.copy_ #[22,22] ty #[.slice (some ⟨W.heap.size,(i + 1) * 4,none⟩) (cap - i) dc,.slice (some ⟨g,i * 4,none⟩) (cap - i) sc]).run Tryz.prog U = .ok (goInt (cap - i)) (U.setCells W.heap.size ((i + 1) * 4) (inner.drop (i * 4))):=fun U hUc hUf ty dc sc => by
     have h:=run_copy4 U ty W.heap.size ((i + 1) * 4) (cap - i) dc ⟨g,i * 4,none⟩ (cap - i) sc (inner.drop (i * 4)) (by rw [D1.out]; simp only [Nat.min_def]; split <;> omega)
      (fun j v hj => by
       rw [Addr.add_lit,hUc,blk_cell hg2]
       rw [List.getElem?_drop] at hj
       rw [← HT.out,List.getElem?_take] at hj
       split at hj
       ·simpa using hj
       ·cases hj)
      (fun j hj => by rw [D1.out] at hj; rw [hUc,blk_cell hh2,Array.getElem?_eq_getElem (by rw [hcs1,hRs]; omega)]; rfl) (fun j hj => by rw [hUf]; exact blk_frozen hh2 _) (fun v hv => HONE.out v (List.mem_of_mem_drop hv))
     rw [h]
     congr 2
     simp only [Nat.min_def]; split <;> omega
    have HH2:=Aside0.mk hh2
    have HCS1:=Aside0.mk hcs1
    have HL1:=Aside0.mk hl1
    have HRS:=Aside0.mk hRs
    have HRT:=Aside0.mk hRt
    have HIT:=Aside0.mk hil
    have HGW:=Aside0.mk hgw
    subst hW1
    have hE1 : ∀ x,((W.alloc (.cells ROW 41)).drew).cell? x = (W.drew.alloc (.cells ROW 41)).cell? x:=fun x => rfl
    have hE2 : ∀ x,((W.alloc (.cells ROW 41)).drew).frozen? x = (W.drew.alloc (.cells ROW 41)).frozen? x:=fun x => rfl
    have hF1 : ∀ x,(((W.alloc (.cells ROW 41)).drew.setCells W.heap.size (i * 4) ca.toList).drew).cell? x = ((W.drew.alloc (.cells ROW 41)).setCells W.heap.size (i * 4) ca.toList).cell? x:=fun x => rfl
    have hF2 : ∀ x,(((W.alloc (.cells ROW 41)).drew.setCells W.heap.size (i * 4) ca.toList).drew).frozen? x = ((W.drew.alloc (.cells ROW 41)).setCells W.heap.size (i * 4) ca.toList).frozen? x:=fun x => rfl
    have hGi : (G = i) = False:=eq_false (by omega)
    have hGi1 : (G = i + 1) = False:=eq_false (by omega)
    have hGc : (cap : Int) + 1 ≤ (G : Int):=by omega
    have hi3 : (i : Int) ≤ (cap : Int):=by omega
    have hdw : IntKind.i64.wrap ((cap : Int) + 1 - (i : Int)) = (cap : Int) + 1 - (i : Int):=wrap64_same (by omega) (by omega)
    clear hr hx hcl hc1 hvc hv hlen hB hi0 hz0 hz1 hz2 hh ht hcs hcm hnc hg hcell hh1 hcs1 hl1 hv1 hg1 hh2 hg2 hkk hik hold hbg hk64 hG hROW hRs hRt hil hgw hvw hgN hroom
    go_enter Tryz.func93,Tryz.ntmps93
    go_wp2_with (first
     | (at_builtin; refine Lib.wpList_append_run _ rfl _ _ _ _ rfl _ _ rfl rfl _ _ (hrz _) ?_)
     | (at_builtin; refine wpList_copy4 _ rfl _ _ 22 22 rfl _ _ rfl rfl (hcpA _ hE1 hE2 _ _) ?_)
     | (at_builtin; refine wpList_copy4 _ rfl _ _ 22 22 rfl _ _ rfl rfl (hcpB _ (fun _ => rfl) (fun _ => rfl) _ _ _) ?_))
    go_region_law_o (refine step_copy4 rfl _ _ 22 22 rfl (.slice (some ⟨W.heap.size,(i + 1) * 4,none⟩) (cap - i) (G - (i + 1))) (.slice (some ⟨g,i * 4,none⟩) (cap - i) (cap - i)) (by simp [Act.eval,Act.put]) (by simp [Act.eval,Act.put]) (hcpB _ hF1 hF2 _ _ _) ?_)
    go_wp2
    go_ret
    have hh2' : (((W.alloc (.cells ROW 41)).drew.setCells W.heap.size (i * 4) ca.toList).drew).heap[W.heap.size]? = some (.cells cur1 41 (0,0)):=HH2.out
    obtain ⟨cur2,hh3,hcs2,hl2⟩:=setCells_row (inner.drop (i * 4)) ((i + 1) * 4) (((W.alloc (.cells ROW 41)).drew.setCells W.heap.size (i * 4) ca.toList).drew) cur1 hh2' (by rw [D1.out,HCS1.out,HRS.out]; omega)
    have hrl : ROW.toList.length = G * 4:=by rw [Array.length_toList,HRS.out]
    have e1 : cur1.toList.take ((i + 1) * 4) = inner.take (i * 4) ++ ca.toList:=by
     rw [HL1.out,HRT.out,List.take_left' (by simp only [List.length_append,HIT.out,HCL.out]; omega)]
    have htake : cur2.toList.take ((cap + 1) * 4) = inner.take (i * 4) ++ (ca.toList ++ inner.drop (i * 4)):=by
     rw [hl2,e1,List.take_left' (by simp only [List.length_append,HIT.out,HCL.out,D1.out]; omega),List.append_assoc]
    have hcapG : G ≤ maxLen:=hG63
    exact ⟨_,_,rfl,hGn,own_close (Nat.le_trans HSZ.out (Nat.le_refl _)) hh3 (by rw [hcs2,HCS1.out,HRS.out]) HML.out hGn hcapG htake HM.out,below_cells HSZ.out _ _ _ (below_drew (below_cells HSZ.out _ _ _ (below_drew (below_alloc HB.out _))))⟩
theorem changing_calls (h : Nat) (w : World) : Calls Tryz.prog 54 #[.func (.func h) #[] #[]] w fun e w' =>
  e = .returned (.func (.func 100) #[] #[.pointer (some ⟨w.heap.size,0,none⟩)]) ∧ w'.heap[w.heap.size]? = some (.cells #[.func (.func h) #[] #[]] 76 (0,0)) ∧ Below w.heap.size w w':=by
 go_enter Tryz.func54,Tryz.ntmps54
 go_wp2
 go_ret
 exact ⟨rfl,blk_new _ _,below_alloc (Below.refl _ _) _⟩
end Go.Proofs.YthhohbidjhcjeaaGreatDoor.H
