/- Rows of patches whose lists lie in elder memory; a patch put behind others; a row joined. -/
import Derived.Test.YthhohbidjhcjeaaGreatDoorGM6
import Derived.Test.YthhohbidjhcjeaaGreatDoorGM1
import Derived.Maps.AppendAt
import Derived.Lib.SliceRun
import Derived.Shelf.Spec.SlicesGrow
import Derived.Shelf.SlicesQ.Reverse
import Derived.Ground.SlgnProg
import Derived.RangeFuncNested
import Derived.RangeFuncBound
import Derived.RangeFuncCalls
import Derived.RangeFuncLeaves
import Derived.Shelf.Abstract
import Derived.Shelf.RegionOpen
import Derived.WalkKit
import Derived.OwnWalkIn
import Derived.TacticsInMore
import Derived.LoopNIn
import Derived.LoopIn
import Derived.Outline
import Derived.Lib.Hide
import Derived.Test.YthhohbidjhcjeaaGreatDoorGM2
import Derived.Maps.OwnIn
import Derived.RegionIn
import Derived.Sort.CutIn
import Derived.Test.YthhohbidjhcjeaaGreatDoorGM5
import Derived.Test.YthhohbidjhcjeaaGreatDoorGM4
namespace Go.Proofs.YthhohbidjhcjeaaGreatDoor.H
open Go.RowKit Go.Proofs.YthhohbidjhcjeaaGreatDoorW.PrintWords Go.Proofs.YthhohbidjhcjeaaGreatDoorW.PrintLast Go.Proofs.YthhohbidjhcjeaaGreatDoorW.PrintMore
open Go.Proofs.YthhohbidjhcjeaaGreatDoor.Q Go.Proofs.YthhohbidjhcjeaaGreatDoor.Pl
set_option linter.unusedVariables false
set_option linter.unusedSimpArgs false
def RwP (w : World) (x : S25) (c : List Value) : Prop:=∃ (X5 : Option Addr) (x5 : Nat) (X6 : Option Addr) (x6 : Nat),c = [.int .i64 x.f0,.string x.f1,.string x.f2,.string x.f3,.int .i64 x.f4,.slice X5 x.f5.length x5,.slice X6 x.f6.length x6] ∧ Rd w x X5 x5 X6 x6
def RowP (w W : World) (v : Value) (xs : List S25) : Prop:=OwnRow (RwP w) 25 7 W w.heap.size v xs
theorem RowP.below {w W W' : World} {v : Value} {xs : List S25} (h : RowP w W v xs) (hb : Below W.heap.size W W') : RowP w W' v xs:=OwnRow.below h hb
theorem RowP.slice {w W : World} {v : Value} {xs : List S25} (h : RowP w W v xs) : ∃ A c,v = .slice A xs.length c ∧ xs.length ≤ c:=OwnRow.slice_ h
theorem rowP_nil (w W : World) : RowP w W (.slice none 0 0) []:=OwnRow.none_ _ _ _ _ _
theorem row_at {w W : World} {v : Value} {xs : List S25} (h : RowP w W v xs) (i : Nat) (hi : i < xs.length) :
  ∃ (ad : Addr) (c : Nat) (X5 : Option Addr) (x5 : Nat) (X6 : Option Addr) (x6 : Nat),v = .slice (some ad) xs.length c ∧ xs.length ≤ c ∧ Rd w xs[i] X5 x5 X6 x6 ∧ W.cell? (ad.add (i * 7)) = some (.int .i64 xs[i].f0) ∧ W.cell? ⟨(ad.add (i * 7)).block,(ad.add (i * 7)).off + 1,none⟩ = some (.string xs[i].f1) ∧ W.cell? ⟨(ad.add (i * 7)).block,(ad.add (i * 7)).off + 2,none⟩ = some (.string xs[i].f2) ∧ W.cell? ⟨(ad.add (i * 7)).block,(ad.add (i * 7)).off + 3,none⟩ = some (.string xs[i].f3) ∧ W.cell? ⟨(ad.add (i * 7)).block,(ad.add (i * 7)).off + 4,none⟩ = some (.int .i64 xs[i].f4) ∧ W.cell? ⟨(ad.add (i * 7)).block,(ad.add (i * 7)).off + 5,none⟩ = some (.slice X5 xs[i].f5.length x5) ∧ W.cell? ⟨(ad.add (i * 7)).block,(ad.add (i * 7)).off + 6,none⟩ = some (.slice X6 xs[i].f6.length x6):=by
 obtain ⟨A,c,rfl,hc,hl,hm,hr⟩:=OwnRow.reads h
 obtain ⟨ad,rfl,hh⟩:=hr (by omega)
 obtain ⟨cl,hcl,⟨X5,x5,X6,x6,rfl,rx⟩,hcell⟩:=hh i _ (List.getElem?_eq_getElem hi)
 exact ⟨ad,c,X5,x5,X6,x6,rfl,hc,rx,hcell 0 _ rfl,by rw [← add_field _ _ 1 (by omega)]; exact hcell 1 _ rfl,by rw [← add_field _ _ 2 (by omega)]; exact hcell 2 _ rfl,by rw [← add_field _ _ 3 (by omega)]; exact hcell 3 _ rfl,by rw [← add_field _ _ 4 (by omega)]; exact hcell 4 _ rfl,by rw [← add_field _ _ 5 (by omega)]; exact hcell 5 _ rfl,by rw [← add_field _ _ 6 (by omega)]; exact hcell 6 _ rfl⟩
theorem row_take {w W : World} {A : Option Addr} {n c : Nat} {xs : List S25} (h : RowP w W (.slice A n c) xs) (m : Nat) (hm : m ≤ xs.length) : RowP w W (.slice A m c) (xs.take m):=by
 obtain ⟨A',c',he,_⟩:=OwnRow.slice_ h
 injection he with _ hn _
 subst hn
 obtain ⟨inner,ho,hr⟩:=h
 refine ⟨inner.take (m * 7),?_,Kd.reps_take hr hm⟩
 rw [List.length_take,Nat.min_eq_left hm]
 exact own_take ho hm
theorem rowP_C {w W : World} {v : Value} {xs : List S25} (h : RowP w W v xs) (hb : Below w.heap.size w W) : ∃ A c,v = .slice A xs.length c ∧ xs.length ≤ c ∧ Kd.C k25 W A xs.length xs:=by
 obtain ⟨A,c,rfl,hc,hr⟩:=OwnRow.reads h
 refine ⟨A,c,rfl,hc,ReadsRow.imp_ hr (Below.refl _ _) ?_⟩
 rintro p cl ⟨X5,x5,X6,x6,rfl,rx⟩
 exact k25_mk W p rx.l5 (Kd.C_below rx.g5 hb) rx.l6 (Kd.C_below rx.g6 hb)
theorem rwP_one {w : World} {x : S25} {X5 : Option Addr} {x5 : Nat} {X6 : Option Addr} {x6 : Nat} : ∀ u ∈ ([.int .i64 x.f0,.string x.f1,.string x.f2,.string x.f3,.int .i64 x.f4,.slice X5 x.f5.length x5,.slice X6 x.f6.length x6] : List Value),u.oneCell' = true:=by
 intro u hu
 simp only [List.mem_cons,List.not_mem_nil,or_false] at hu
 rcases hu with rfl | rfl | rfl | rfl | rfl | rfl | rfl <;> rfl
theorem infoR : (Tryz.prog.info? 25).map (fun i => (i.zero,i.size,i.bytes)) = some (some (.agg #[(.int .i64 0),(.string ⟨#[]⟩),(.string ⟨#[]⟩),(.string ⟨#[]⟩),(.int .i64 0),(.slice none 0 0),(.slice none 0 0)]),7,112):=by kernel_rfl
theorem join_tuple {w0 w : World} {r : Option (Option S25)} {e : Ending} {w' : World} (h : JoinPost w0 w r e w') : ∃ a b,e = .returned (.tuple #[a,b]) ∧ Below w.heap.size w w':=by
 cases r with
 | none => exact ⟨_,_,h.1,h.2⟩
 | some y =>
  cases y with
  | none => exact ⟨_,_,h.1,h.2⟩
  | some x =>
   obtain ⟨g,X5,x5,X6,x6,he,_,_,hb⟩:=h
   exact ⟨_,_,he,hb⟩
theorem join_wide {w0 w V : World} {r : Option (Option S25)} {e : Ending} {w' : World} (hV : Below V.heap.size V w) (h : JoinPost w0 w r e w') : JoinPost w0 V r e w':=by
 cases r with
 | none => exact ⟨h.1,hV.trans (h.2.mono hV.size)⟩
 | some y =>
  cases y with
  | none => exact ⟨h.1,hV.trans (h.2.mono hV.size)⟩
  | some x =>
   obtain ⟨g,X5,x5,X6,x6,he,h1,h2,hb⟩:=h
   exact ⟨g,X5,x5,X6,x6,he,h1,h2,hV.trans (hb.mono hV.size)⟩
theorem tuple2 {a b c d : Value} (h : Ending.returned (.tuple #[a,b]) = .returned (.tuple #[c,d])) : a = c ∧ b = d:=by simpa using h
theorem row_cut (ad : Addr) (n c : Nat) (hc : n + 1 ≤ c) : ∀ W,(Instr.slice 34 (.slice (some ad) (n + 1) c) none (some (.int .i64 (n : Int))) none).run Tryz.prog W = .ok (.slice (some ad) n c) W:=by
 obtain ⟨i0,hi,hz0,hz1,hz2⟩:=info_parts infoR
 have h:=cut_to 34 25 .i64 Tryz.underlying34 hi (some ad) (n + 1) c (n : Int) (by omega) (by omega) hc
 simpa using h
def PutPost (w : World) (s : List S25) (e : Ending) (w' : World) : Prop:=∃ v,e = .returned v ∧ RowP w w' v s.reverse ∧ Below w.heap.size w w'
set_option maxHeartbeats 16000000 in
set_option maxRecDepth 100000 in
theorem put_at (w : World) : ∀ (s : List S25) (W : World) (v : Value) (p : S25) (A5 : Option Addr) (c5 : Nat) (A6 : Option Addr) (c6 : Nat),Below w.heap.size w W → RowP w W v s.reverse → (∀ x ∈ s,Okp x) → Okp p → Rd w p A5 c5 A6 c6 → s.length + 1 ≤ 1256584717458 →
  Calls Tryz.prog 88 #[v,.agg #[.int .i64 p.f0,.string p.f1,.string p.f2,.string p.f3,.int .i64 p.f4,.slice A5 p.f5.length c5,.slice A6 p.f6.length c6]] W (PutPost w (putS s p))
 | [],W,v,p,A5,c5,A6,c6,hB,hrow,hs,hp,rp,hl => by
  obtain ⟨A,c,rfl,hc⟩:=hrow.slice
  have hB1 : Aside0 (Below w.heap.size w (W.alloc (.cells #[.int .i64 p.f0,.string p.f1,.string p.f2,.string p.f3,.int .i64 p.f4,.slice A5 p.f5.length c5,.slice A6 p.f6.length c6] 25))):=⟨below_alloc hB _⟩
  have hrow1 : Aside0 (RowP w (W.alloc (.cells #[.int .i64 p.f0,.string p.f1,.string p.f2,.string p.f3,.int .i64 p.f4,.slice A5 p.f5.length c5,.slice A6 p.f6.length c6] 25)) (.slice A ([] : List S25).reverse.length c) []):=⟨hrow.below (below_alloc (Below.refl _ _) _)⟩
  have rp1:=Aside0.mk rp
  have hsz : Aside0 ((W.alloc (.cells #[.int .i64 p.f0,.string p.f1,.string p.f2,.string p.f3,.int .i64 p.f4,.slice A5 p.f5.length c5,.slice A6 p.f6.length c6] 25)).heap.size = W.heap.size + 1):=⟨by simp⟩
  clear hrow hc hl
  simp only [List.reverse_nil,List.length_nil] at hrow1 ⊢
  go_enter Tryz.func88,Tryz.ntmps88
  go_wp2_with (((with_reducible refine gate_builtin (b:=.append) (xs:=#[.tmp 40,.tmp 42]) rfl ?_); at_builtin; refine OwnRow.append (R:=RwP w) (w0:=w) w.heap.size rfl (.tmp 40) (.tmp 42) 34 25 (.agg #[(.int .i64 0),(.string ⟨#[]⟩),(.string ⟨#[]⟩),(.string ⟨#[]⟩),(.int .i64 0),(.slice none 0 0),(.slice none 0 0)]) 7 112 rfl Tryz.underlying34 infoR rfl (by decide) (by omega) (.slice A 0 c) ([] : List S25) p [.int .i64 p.f0,.string p.f1,.string p.f2,.string p.f3,.int .i64 p.f4,.slice A5 p.f5.length c5,.slice A6 p.f6.length c6] rfl ?aX ?aP rfl (rwP_one (w:=w)) ?aO ?aB ?aS ?aL ?_; (case aX => exact congrArg (fun n => Value.slice (some ⟨n,0,none⟩) 1 1) hsz.out.symm); (case aP => exact ⟨_,_,_,_,rfl,rp1.out⟩); (case aO => exact hrow1.out); (case aB => exact hB1.out); (case aS => exact hB1.out.size); (case aL => decide); intro v1 w3 hR hb3 hg hat))
  go_ret
  exact ⟨v1,rfl,hR,hb3⟩
 | t :: r,W,v,p,A5,c5,A6,c6,hB,hrow,hs,hp,rp,hl => by
  have ih:=Aside0.mk (put_at w r)
  have ot:=hs t (List.mem_cons_self ..)
  have hsr : Aside0 (∀ x ∈ r,Okp x):=⟨fun x hx => hs x (List.mem_cons_of_mem _ hx)⟩
  clear hs
  obtain ⟨L,hL⟩ : ∃ L,L = (t :: r).reverse:=⟨_,rfl⟩
  have hLl : L.length = r.length + 1:=by rw [hL]; simp
  have hLt : ∀ h,L[r.length]'h = t:=by subst hL; intro h; simp
  have hLk : Aside0 (L.take r.length = r.reverse):=⟨by rw [hL,List.reverse_cons,List.take_left' (by simp)]⟩
  rw [← hL] at hrow
  obtain ⟨ad,c,X5,x5,X6,x6,rfl,hc,rt,y0,y1,y2,y3,y4,y5,y6⟩:=row_at hrow r.length (by omega)
  simp only [hLt] at rt y0 y1 y2 y3 y4 y5 y6
  rw [hLl] at hc hrow ⊢
  obtain ⟨n,hn⟩ : ∃ n,n = r.length:=⟨_,rfl⟩
  rw [← hn] at hc hrow y0 y1 y2 y3 y4 y5 y6 hLk ⊢
  have hl2 : Aside0 (n + 2 ≤ 1256584717458):=⟨by rw [List.length_cons] at hl; omega⟩
  have hnl : Aside0 (n = r.length):=⟨hn⟩
  have hL2 : Aside0 (L.length = n + 1):=⟨by omega⟩
  have hLA : Aside0 ((L.length + 1) * 112 ≤ 140737488355328):=⟨Nat.le_trans (Nat.mul_le_mul_right 112 (show L.length + 1 ≤ 1256584717458 by have:=hl2.out; have:=hL2.out; omega)) (by decide)⟩
  have hlr : Aside0 (r.length + 1 ≤ 1256584717458):=⟨by have:=hl2.out; have:=hnl.out; omega⟩
  have htm : Aside0 (n ≤ L.length):=⟨by omega⟩
  replace hL:=Aside0.mk hL
  have hn2 : n ≤ 1256584717458:=by (have:=hl2.out; omega)
  have hwn : IntKind.i64.wrap (n : Int) = (n : Int):=wrap_small _ (by omega) (by omega)
  have hlt1 : ((n : Int) < (n : Int) + 1) = True:=eq_true (by omega)
  clear hl hn hLl hLt
  replace y0:=Aside0.mk y0
  replace y1:=Aside0.mk y1
  replace y2:=Aside0.mk y2
  replace y3:=Aside0.mk y3
  replace y4:=Aside0.mk y4
  replace y5:=Aside0.mk y5
  replace y6:=Aside0.mk y6
  have hB1 : Aside0 (Below w.heap.size w (W.alloc (.cells #[.int .i64 p.f0,.string p.f1,.string p.f2,.string p.f3,.int .i64 p.f4,.slice A5 p.f5.length c5,.slice A6 p.f6.length c6] 25))):=⟨below_alloc hB _⟩
  have hrow1 : Aside0 (RowP w (W.alloc (.cells #[.int .i64 p.f0,.string p.f1,.string p.f2,.string p.f3,.int .i64 p.f4,.slice A5 p.f5.length c5,.slice A6 p.f6.length c6] 25)) (.slice (some ad) (n + 1) c) L):=⟨hrow.below (below_alloc (Below.refl _ _) _)⟩
  have rp1:=Aside0.mk rp
  have rt1:=Aside0.mk rt
  have xp : Aside0 ((W.alloc (.cells #[.int .i64 p.f0,.string p.f1,.string p.f2,.string p.f3,.int .i64 p.f4,.slice A5 p.f5.length c5,.slice A6 p.f6.length c6] 25)).heap[W.heap.size]? = some (.cells #[.int .i64 p.f0,.string p.f1,.string p.f2,.string p.f3,.int .i64 p.f4,.slice A5 p.f5.length c5,.slice A6 p.f6.length c6] 25 (0,0))):=⟨blk_new W _⟩
  replace y0 : Aside0 ((W.alloc (.cells #[.int .i64 p.f0,.string p.f1,.string p.f2,.string p.f3,.int .i64 p.f4,.slice A5 p.f5.length c5,.slice A6 p.f6.length c6] 25)).cell? _ = _):=⟨pw_cell_below (below_alloc (Below.refl _ W) _) y0.out⟩
  replace y1 : Aside0 ((W.alloc (.cells #[.int .i64 p.f0,.string p.f1,.string p.f2,.string p.f3,.int .i64 p.f4,.slice A5 p.f5.length c5,.slice A6 p.f6.length c6] 25)).cell? _ = _):=⟨pw_cell_below (below_alloc (Below.refl _ W) _) y1.out⟩
  replace y2 : Aside0 ((W.alloc (.cells #[.int .i64 p.f0,.string p.f1,.string p.f2,.string p.f3,.int .i64 p.f4,.slice A5 p.f5.length c5,.slice A6 p.f6.length c6] 25)).cell? _ = _):=⟨pw_cell_below (below_alloc (Below.refl _ W) _) y2.out⟩
  replace y3 : Aside0 ((W.alloc (.cells #[.int .i64 p.f0,.string p.f1,.string p.f2,.string p.f3,.int .i64 p.f4,.slice A5 p.f5.length c5,.slice A6 p.f6.length c6] 25)).cell? _ = _):=⟨pw_cell_below (below_alloc (Below.refl _ W) _) y3.out⟩
  replace y4 : Aside0 ((W.alloc (.cells #[.int .i64 p.f0,.string p.f1,.string p.f2,.string p.f3,.int .i64 p.f4,.slice A5 p.f5.length c5,.slice A6 p.f6.length c6] 25)).cell? _ = _):=⟨pw_cell_below (below_alloc (Below.refl _ W) _) y4.out⟩
  replace y5 : Aside0 ((W.alloc (.cells #[.int .i64 p.f0,.string p.f1,.string p.f2,.string p.f3,.int .i64 p.f4,.slice A5 p.f5.length c5,.slice A6 p.f6.length c6] 25)).cell? _ = _):=⟨pw_cell_below (below_alloc (Below.refl _ W) _) y5.out⟩
  replace y6 : Aside0 ((W.alloc (.cells #[.int .i64 p.f0,.string p.f1,.string p.f2,.string p.f3,.int .i64 p.f4,.slice A5 p.f5.length c5,.slice A6 p.f6.length c6] 25)).cell? _ = _):=⟨pw_cell_below (below_alloc (Below.refl _ W) _) y6.out⟩
  clear hrow rp rt
  go_enter Tryz.func88,Tryz.ntmps88
  go_upto_region 2 with (fail)
  obtain ⟨V,hV⟩ : ∃ V,V = (W.alloc (.cells #[.int .i64 p.f0,.string p.f1,.string p.f2,.string p.f3,.int .i64 p.f4,.slice A5 p.f5.length c5,.slice A6 p.f6.length c6] 25)):=⟨_,rfl⟩
  rw [← hV] at hB1 hrow1 xp y0 y1 y2 y3 y4 y5 y6 ⊢
  clear hV
  go_cut [5,6] from 12 to 22 (fun v5 v6 w' => Aside0 (JoinPost w V (joinS t p) (.returned (.tuple #[v5,v6])) w'))
  case first =>
   refine wp_region_held_drew (S:=fun W => Below V.heap.size V W) (by kernel_rfl) (below_drew (Below.refl _ _)) (fun _ => ?_)
   have hS:=below_drew (Below.refl V.heap.size V)
   generalize World.drew V = W' at hS ⊢
   refine' tkE 0 13 hS ?_ ?_; rotate_left
   ·intro W' hSW; go_simp; (try with_reducible rfl)
   refine' tkE 1 14 hS ?_ ?_; rotate_left
   ·intro W' hSW; go_simp; (try with_reducible rfl)
   refine' tkE 2 15 hS ?_ ?_; rotate_left
   ·intro W' hSW; go_simp; (try with_reducible rfl)
   refine' tkE 3 16 hS ?_ ?_; rotate_left
   ·intro W' hSW; go_simp; (try with_reducible rfl)
   refine' tkE 4 17 hS ?_ ?_; rotate_left
   ·intro W' hSW; go_simp; (try with_reducible rfl)
   refine' tkE 5 18 hS ?_ ?_; rotate_left
   ·intro W' hSW; have q0:=pw_cell_below hSW y0.out; have q1:=pw_cell_below hSW y1.out; have q2:=pw_cell_below hSW y2.out; have q3:=pw_cell_below hSW y3.out; have q4:=pw_cell_below hSW y4.out; have q5:=pw_cell_below hSW y5.out; have q6:=pw_cell_below hSW y6.out; go_simp; (try with_reducible rfl)
   refine' tkE 6 19 hS ?_ ?_; rotate_left
   ·intro W' hSW; obtain ⟨k0,k1,k2,k3,k4,k5,k6⟩:=cells7 (blk_below xp.out hSW); go_simp; (try with_reducible rfl)
   simp only [Act.put,List.setIfInBounds_toArray,List.set_cons_zero,List.set_cons_succ]
   refine wpAnyH_ready (rs:=[7]) (by kernel_rfl) (by simp) (AllReadyH.cons rfl (fun K hK => ?_) AllReadyH.nil)
   go_simp
   refine (join_at t p X5 x5 X6 x6 A5 c5 A6 c6 _ w (hB1.out.trans (hS.mono hB1.out.size)) ot hp rt1.out rp1.out).mono ?_
   rintro e W2 hJ
   obtain ⟨a5,a6,rfl,hb⟩:=join_tuple hJ
   replace hJ:=Aside0.mk (join_wide hS hJ)
   replace hS:=hS.trans (hb.mono hS.size)
   clear hb
   refine hK.out _ _ hS (fun _ => ?_)
   clear hK K
   refine' tkE 8 12 hS ?_ ?_; rotate_left
   ·intro W' hSW; go_simp; (try with_reducible rfl)
   refine' tkE 9 21 hS ?_ ?_; rotate_left
   ·intro W' hSW; go_simp; (try with_reducible rfl)
   refine' tkE 10 22 hS ?_ ?_; rotate_left
   ·intro W' hSW; go_simp; (try with_reducible rfl)
   refine' tkE 11 5 hS ?_ ?_; rotate_left
   ·intro W' hSW; go_simp; (try with_reducible rfl)
   refine' tkE 12 6 hS ?_ ?_; rotate_left
   ·intro W' hSW; go_simp; (try with_reducible rfl)
   simp only [Act.put,List.setIfInBounds_toArray,List.set_cons_zero,List.set_cons_succ]
   refine wpAnyH_done (by kernel_rfl) ?_ _
   go_wp2
   go_meet
   case rel => exact hJ
  case rest =>
   replace hcut:=hcut.out
   have hbc:=(join_tuple hcut).choose_spec.choose_spec.2
   have hB2:=Aside0.mk (hB1.out.trans (hbc.mono hB1.out.size))
   have hrow2:=Aside0.mk (hrow1.out.below hbc)
   have xp2:=blk_below xp.out hbc
   have htk : Aside0 (RowP w wc (.slice (some ad) n c) r.reverse):=⟨by rw [← hLk.out]; exact row_take hrow2.out n htm.out⟩
   clear hrow1 hB1 xp hbc y0 y1 y2 y3 y4 y5 y6
   have hsl : ∀ W,(Instr.slice 34 (.slice (some ad) (n + 1) c) none (some (.int .i64 (n : Int))) none).run Tryz.prog W = .ok (.slice (some ad) n c) W:=row_cut ad n c hc
   cases hj : joinS t p with
   | none =>
    have hput : Aside0 ((putS (t :: r) p).reverse = L ++ [p]):=⟨by rw [putS,hj,hL.out,List.reverse_cons]⟩
    rw [hj] at hcut
    clear hj hsl htk
    obtain ⟨he,-⟩:=hcut
    obtain ⟨rfl,rfl⟩:=tuple2 he
    clear he
    obtain ⟨k0,k1,k2,k3,k4,k5,k6⟩:=cells7 xp2
    go_wp2_with (((with_reducible refine gate_builtin (b:=.append) (xs:=#[.tmp 40,.tmp 42]) rfl ?_); at_builtin; refine OwnRow.append (R:=RwP w) (w0:=w) w.heap.size rfl (.tmp 40) (.tmp 42) 34 25 (.agg #[(.int .i64 0),(.string ⟨#[]⟩),(.string ⟨#[]⟩),(.string ⟨#[]⟩),(.int .i64 0),(.slice none 0 0),(.slice none 0 0)]) 7 112 rfl Tryz.underlying34 infoR rfl (by decide) (by omega) (.slice (some ad) (n + 1) c) L p [.int .i64 p.f0,.string p.f1,.string p.f2,.string p.f3,.int .i64 p.f4,.slice A5 p.f5.length c5,.slice A6 p.f6.length c6] rfl ?aX ?aP rfl (rwP_one (w:=w)) ?aO ?aB ?aS ?aL ?_; (case aX => rfl); (case aP => exact ⟨_,_,_,_,rfl,rp1.out⟩); (case aO => exact hrow2.out); (case aB => exact hB2.out); (case aS => exact hB2.out.size); (case aL => exact hLA.out); intro v1 w3 hR hb3 hg hat))
    go_ret
    exact ⟨v1,rfl,by rw [hput.out]; exact hR,hb3⟩
   | some y =>
    cases y with
    | none =>
     have hput : Aside0 ((putS (t :: r) p).reverse = r.reverse):=⟨by rw [putS,hj]⟩
     rw [hj] at hcut
     clear hj
     obtain ⟨he,-⟩:=hcut
     obtain ⟨rfl,rfl⟩:=tuple2 he
     clear he
     go_wp2
     go_loopg [0,31] 0 (fun kq v0 v31 w' => v31 = .int .i64 0 ∧ v0 = .slice (some ad) n c ∧ w' = wc)
     case atStart => exact ⟨rfl,rfl,rfl⟩
     case round =>
      obtain ⟨rfl,rfl,rfl⟩:=hrel
      go_wp2
      go_ret
      exact ⟨_,rfl,by rw [hput.out]; exact htk.out,hB2.out⟩
    | some x =>
     have hput : Aside0 ((putS (t :: r) p).reverse = (putS r x).reverse):=⟨by rw [putS,hj]⟩
     have ox:=joinS_okp ot hp hj
     rw [hj] at hcut
     clear hj
     obtain ⟨g,Y5,y5,Y6,y6,he,xg,rx,-⟩:=hcut
     obtain ⟨rfl,rfl⟩:=tuple2 he
     clear he
     replace rx:=Aside0.mk rx
     replace xg:=Aside0.mk xg
     go_wp2
     go_loopg [0,31] 1 (fun kq v0 v31 w' => (v31 = .int .i64 0 ∧ v0 = .slice (some ad) n c ∧ w' = wc ∧ kq = 1) ∨ (v31 = .int .i64 1 ∧ Aside0 (RowP w w' v0 (putS r x).reverse) ∧ Aside0 (Below w.heap.size w w')))
     case atStart => exact .inl ⟨rfl,rfl,rfl,rfl⟩
     case round =>
      rcases hrel with ⟨rfl,rfl,rfl,rfl⟩ | ⟨rfl,hR,hB3⟩
      ·obtain ⟨k0,k1,k2,k3,k4,k5,k6⟩:=cells7 xg.out
       go_wp2_with (fail)
       refine (ih.out _ _ x Y5 y5 Y6 y6 (below_alloc hB2.out _) (htk.out.below (below_alloc (Below.refl _ _) _)) hsr.out ox rx.out hlr.out).mono ?_
       rintro e w4 ⟨v4,rfl,hR4,hB4⟩
       replace hR4:=Aside0.mk hR4
       replace hB4:=Aside0.mk hB4
       clear k0 k1 k2 k3 k4 k5 k6
       go_wp2
       go_roundg 0
       case measure => omega
       case rel => exact .inr ⟨rfl,hR4,hB4⟩
      ·go_wp2
       go_ret
       exact ⟨_,rfl,by rw [hput.out]; exact hR.out,hB3.out⟩
theorem putS_okp : ∀ (s : List S25) (p : S25),(∀ x ∈ s,Okp x) → Okp p → ∀ x ∈ putS s p,Okp x
 | [],p,_,hp => by
  intro x hx
  simp only [putS,List.mem_cons,List.not_mem_nil,or_false] at hx
  exact hx ▸ hp
 | t :: r,p,hs,hp => by
  intro x hx
  rw [putS] at hx
  cases hj : joinS t p with
  | none =>
   rw [hj] at hx
   rcases List.mem_cons.1 hx with rfl | h
   ·exact hp
   ·exact hs x h
  | some y =>
   cases y with
   | none => rw [hj] at hx; exact hs x (List.mem_cons_of_mem _ hx)
   | some z => rw [hj] at hx; exact putS_okp r z (fun x hx => hs x (List.mem_cons_of_mem _ hx)) (joinS_okp (hs t (List.mem_cons_self ..)) hp hj) x hx
theorem putS_len : ∀ (s : List S25) (p : S25),(putS s p).length ≤ s.length + 1
 | [],p => by simp [putS]
 | t :: r,p => by
  rw [putS]
  cases hj : joinS t p with
  | none => simp
  | some y =>
   cases y with
   | none => simp; omega
   | some z => have:=putS_len r z; simp only [List.length_cons]; omega
theorem stack_take (l : List S25) (i : Nat) (hi : i < l.length) : stackS [] (l.take (i + 1)) = putS (stackS [] (l.take i)) l[i]:=by
 unfold stackS
 rw [List.take_succ_eq_append_getElem hi,List.foldl_append]
 rfl
set_option maxHeartbeats 4000000 in
set_option maxRecDepth 100000 in
theorem coal_at (l : List S25) (A : Option Addr) (c : Nat) (w : World) (hl : ∀ x ∈ l,Okp x) (hn : l.length + 1 ≤ 1256584717458) (gl : Kd.C k25 w A l.length l) (hlc : l.length ≤ c) :
  Calls Tryz.prog 50 #[.slice A l.length c] w (fun e w' => ∃ v,e = .returned v ∧ RowP w w' v (coalS l) ∧ Below w.heap.size w w'):=by
 go_enter Tryz.func50,Tryz.ntmps50
 go_wp2
 go_loopg [3,8] l.length (fun kq v3 v8 w' => ∃ (i : Nat) (s : List S25),v8 = .int .i64 (i : Int) ∧ Aside0 (i + kq = l.length) ∧ Aside0 (s = stackS [] (l.take i)) ∧ Aside0 (∀ x ∈ s,Okp x) ∧ Aside0 (s.length ≤ i) ∧ Aside0 (RowP w w' v3 s.reverse) ∧ Aside0 (Below w.heap.size w w'))
 case atStart => exact ⟨0,[],rfl,⟨by omega⟩,⟨rfl⟩,⟨fun _ h => absurd h List.not_mem_nil⟩,⟨Nat.le_refl _⟩,⟨rowP_nil _ _⟩,⟨Below.refl _ _⟩⟩
 case round =>
  obtain ⟨i,s,rfl,hk,hs,hok,hlen,hR,hB⟩:=hrel
  by_cases hi : i < l.length
  ·have c1b : decide ((i : Int) < (l.length : Int)) = true:=decide_eq_true (by omega)
   obtain ⟨ad,X5,x5,X6,x6,eA,y0,y1,y2,y3,y4,y5,y6,l5,g5,l6,g6⟩:=at_T25 gl (i : Int) (by omega) (by omega)
   obtain ⟨x,hx⟩ : ∃ x,rd_T25 l (i : Int) = x:=⟨_,rfl⟩
   rw [hx] at y0 y1 y2 y3 y4 y5 y6 l5 g5 l6 g6
   have hxm : x = l[i]:=by rw [← hx,rd_T24_get l hi]
   have rx : Aside0 (Rd w x X5 x5 X6 x6):=⟨⟨g5,l5,g6,l6⟩⟩
   have hox : Okp x:=by rw [hxm]; exact hl _ (List.getElem_mem hi)
   have hnx : Aside0 (putS s x = stackS [] (l.take (i + 1))):=⟨by rw [stack_take l i hi,hs.out,hxm]⟩
   have hln : Aside0 (s.length + 1 ≤ 1256584717458):=⟨by have:=hlen.out; omega⟩
   have hbW:=hB.out
   have i0 : (0 : Int) ≤ (i : Int):=by omega
   have i1 : (i : Int) < (l.length : Int):=by omega
   have z0:=pw_cell_below hbW y0
   have z1:=pw_cell_below hbW y1
   have z2:=pw_cell_below hbW y2
   have z3:=pw_cell_below hbW y3
   have z4:=pw_cell_below hbW y4
   have z5:=pw_cell_below hbW y5
   have z6:=pw_cell_below hbW y6
   simp only [Int.toNat_natCast] at z0 z1 z2 z3 z4 z5 z6
   clear y0 y1 y2 y3 y4 y5 y6 l5 g5 l6 g6 hx hxm
   subst eA
   have hwi : IntKind.i64.wrap ((i : Int) + 1) = ((i + 1 : Nat) : Int):=by rw [wrap_small _ (by omega) (by omega)]; omega
   clear hbW
   go_wp2_with (fail)
   refine (put_at w s _ _ x X5 x5 X6 x6 (below_alloc hB.out _) (hR.out.below (below_alloc (Below.refl _ _) _)) hok.out hox rx.out hln.out).mono ?_
   rintro e w4 ⟨v4,rfl,hR4,hB4⟩
   replace hR4:=Aside0.mk hR4
   replace hB4:=Aside0.mk hB4
   clear z0 z1 z2 z3 z4 z5 z6
   go_wp2
   go_roundg (l.length - (i + 1))
   case measure => have:=hk.out; omega
   case rel => exact ⟨i + 1,putS s x,by simp,⟨by omega⟩,hnx,⟨putS_okp s x hok.out hox⟩,⟨by have:=putS_len s x; have:=hlen.out; omega⟩,hR4,hB4⟩
  ·have c1b : decide ((i : Int) < (l.length : Int)) = false:=decide_eq_false (by omega)
   have hil : i = l.length:=by have:=hk.out; omega
   have hfin : Aside0 (s.reverse = coalS l):=⟨by rw [hs.out,hil,List.take_length]; rfl⟩
   go_wp2
   go_ret
   exact ⟨_,rfl,by rw [← hfin.out]; exact hR.out,hB.out⟩
theorem repsP_one {w : World} {ps : List S25} {inner : List Value} (h : Reps (RwP w) 7 ps inner) : ∀ u ∈ inner,u.oneCell' = true:=by
 intro u hu
 obtain ⟨j,hj,rfl⟩:=List.getElem_of_mem hu
 have hl:=h.1
 have hq : j / 7 < ps.length:=by omega
 obtain ⟨X5,x5,X6,x6,he,rx⟩:=h.2 (j / 7) _ (List.getElem?_eq_getElem hq)
 have hm : inner[j] ∈ (inner.drop (j / 7 * 7)).take 7:=by
  refine List.mem_of_getElem? (i:=j % 7) ?_
  rw [List.getElem?_take_of_lt (by omega),List.getElem?_drop,show j / 7 * 7 + j % 7 = j by omega]
  exact List.getElem?_eq_getElem hj
 rw [he] at hm
 exact rwP_one (w:=w) _ hm
theorem rowsP_rw {w W : World} {A : Option Addr} {n : Nat} {xs : List S25} (h : Kd.C k25 w A n xs) (hb : Below w.heap.size w W) : ReadsRow (RwP w) 7 W A n xs:=by
 refine ReadsRow.imp_ h hb ?_
 intro p c hk
 obtain ⟨A5,c5,A6,c6,rfl,l5,g5,l6,g6⟩:=k25_open hk
 exact ⟨A5,c5,A6,c6,rfl,⟨g5,l5,g6,l6⟩⟩
end Go.Proofs.YthhohbidjhcjeaaGreatDoor.H
namespace Go.Proofs
open Go.Shelf
def Tryz.growP_ren : Go.Shelf.Ren:=⟨fun | 4 => 127 | n => n,fun | 22 => 34 | 25 => 25 | 3 => 3 | 4 => 4 | 9 => 9 | 20 => 20 | 0 => 0 | n => n,fun | n => n⟩
theorem Tryz.growP : Go.Proofs.Lays8.n4 Tryz.prog Tryz.growP_ren:={
 mixed:=by kernel_rfl
 f4:=⟨Tryz.f127.name,by decide,Tryz.func127.trans (congrArg some (by kernel_rfl))⟩
 t0:=Tryz.underlying0
 a0:=Tryz.isAgg0
 z0:=Tryz.sizeOf0
 v0:=Tryz.zeroValue0
 t3:=Tryz.underlying3
 a3:=Tryz.isAgg3
 z3:=Tryz.sizeOf3
 v3:=Tryz.zeroValue3
 t4:=Tryz.underlying4
 a4:=Tryz.isAgg4
 z4:=Tryz.sizeOf4
 v4:=Tryz.zeroValue4
 t9:=Tryz.underlying9
 a9:=Tryz.isAgg9
 z9:=Tryz.sizeOf9
 v9:=Tryz.zeroValue9
 t20:=Tryz.underlying20
 a20:=Tryz.isAgg20
 z20:=Tryz.sizeOf20
 v20:=Tryz.zeroValue20
 t22:=Tryz.underlying34
 a22:=Tryz.isAgg34
 z22:=Tryz.sizeOf34
 v22:=Tryz.zeroValue34 }
end Go.Proofs
namespace Go.Proofs.YthhohbidjhcjeaaGreatDoor.H
open Go.RowKit Go.Proofs.YthhohbidjhcjeaaGreatDoorW.PrintWords Go.Proofs.YthhohbidjhcjeaaGreatDoorW.PrintLast Go.Proofs.YthhohbidjhcjeaaGreatDoorW.PrintMore
open Go.Proofs.YthhohbidjhcjeaaGreatDoor.Q Go.Proofs.YthhohbidjhcjeaaGreatDoor.Pl
set_option linter.unusedSimpArgs false
set_option linter.unusedVariables false
theorem grow_at (w : World) (n : Nat) (W : World) (hB : Below w.heap.size w W) (hn : n ≤ 1256584717458) :
  Calls Tryz.prog 127 #[.slice none 0 0,.int .i64 (n : Int)] W fun e W' => ∃ v,e = .returned v ∧ RowP w W' v [] ∧ Below w.heap.size w W':=by
 rcases Nat.eq_zero_or_pos n with rfl | hp
 ·refine (Any8.slices_Grow_room Tryz.growP none 0 0 0 W (Nat.le_refl _) (by decide) (by decide) (Nat.le_refl _)).mono ?_
  rintro e W' ⟨rfl,rfl⟩
  exact ⟨_,rfl,rowP_nil _ _,hB⟩
 ·obtain ⟨i0,hi,hz0,hz1,hz2⟩:=info_parts infoR
  refine (Any8.slices_Grow_grow Tryz.growP i0 _ hi hz0 (by omega) none 0 0 n [] W (Nat.le_refl _) (by omega) (by rw [hz2,Nat.zero_add]; exact Nat.le_trans (Nat.mul_le_mul_right 112 hn) (by decide)) (by omega) (by simp) (fun _ => rfl) (fun a h => by cases h)).mono ?_
  rintro e W' ⟨rfl,rfl⟩
  refine ⟨_,rfl,⟨[],⟨by simp,Or.inr ⟨W.heap.size,_,_,rfl,hB.size,blk_new W.drew _,Nat.zero_le _,grownCap_le_maxLen _ _ _ _ (by unfold maxLen; omega),?_,by simp⟩⟩,Reps.none _ _⟩,below_alloc hB.drew _⟩
  have hg:=grownCap_ge W (0 + n) 0 (Tryz.growP_ren.t 25)
  simp only [Array.size_append,size_zeroCells]
  show 0 + (0 + n - 0) * 7 + (grownCap W (0 + n) 0 (Tryz.growP_ren.t 25) - (0 + n)) * 7 = grownCap W (0 + n) 0 (Tryz.growP_ren.t 25) * 7
  generalize grownCap W (0 + n) 0 (Tryz.growP_ren.t 25) = g at hg
  omega
def flatP (rs : List (Option Addr × Nat × List S25)) : List S25:=rs.flatMap (fun r => r.2.2)
theorem flatP_take (rs : List (Option Addr × Nat × List S25)) (i : Nat) (hi : i < rs.length) : flatP (rs.take (i + 1)) = flatP (rs.take i) ++ rs[i].2.2:=by
 unfold flatP
 rw [List.take_succ_eq_append_getElem hi,List.flatMap_append]
 simp
theorem flatP_le (rs : List (Option Addr × Nat × List S25)) (i : Nat) : (flatP (rs.take i)).length ≤ (flatP rs).length:=by
 unfold flatP
 conv => rhs; rw [← List.take_append_drop i rs,List.flatMap_append,List.length_append]
 omega
set_option maxHeartbeats 4000000 in
set_option maxRecDepth 100000 in
theorem concat_at (rs : List (Option Addr × Nat × List S25)) (g c : Nat) (W : World) (hg : ∀ j r,rs[j]? = some r → W.cell? ⟨g,j,none⟩ = some (.slice r.1 r.2.2.length r.2.1)) (hr : ∀ r ∈ rs,ReadsRow (RwP W) 7 W r.1 r.2.2.length r.2.2) (hn : (flatP rs).length ≤ 1256584717458) (hrs : rs.length ≤ 1000) :
  Calls Tryz.prog 87 #[.slice (some ⟨g,0,none⟩) rs.length c] W fun e W' => ∃ v,e = .returned v ∧ RowP W W' v (flatP rs) ∧ Below W.heap.size W W':=by
 replace hg:=Aside0.mk hg
 replace hr:=Aside0.mk hr
 go_enter Tryz.func87,Tryz.ntmps87
 go_wp2
 go_loopg [3,11] rs.length (fun kq v3 v11 w' => ∃ (i : Nat),v11 = .int .i64 (i : Int) ∧ v3 = .int .i64 ((flatP (rs.take i)).length : Int) ∧ Aside0 (i + kq = rs.length) ∧ W = w')
 case atStart => exact ⟨0,rfl,rfl,⟨by omega⟩,rfl⟩
 case round =>
  obtain ⟨i,rfl,rfl,hk,rfl⟩:=hrel
  by_cases hi : i < rs.length
  ·have c1b : decide ((i : Int) < (rs.length : Int)) = true:=decide_eq_true (by omega)
   have i0 : (0 : Int) ≤ (i : Int):=by omega
   have i1 : (i : Int) < (rs.length : Int):=by omega
   have hx:=hg.out i _ (List.getElem?_eq_getElem hi)
   have hf:=flatP_take rs i hi
   have hle:=flatP_le rs (i + 1)
   rw [hf,List.length_append] at hle
   have hwi : IntKind.i64.wrap ((i : Int) + 1) = (i : Int) + 1:=wrap_small _ (by omega) (by omega)
   have hws : IntKind.i64.wrap (((flatP (rs.take i)).length : Int) + (rs[i].2.2.length : Int)) = ((flatP (rs.take i)).length : Int) + (rs[i].2.2.length : Int):=wrap_small _ (by omega) (by omega)
   have hneg : decide (((flatP (rs.take i)).length : Int) + (rs[i].2.2.length : Int) < 0) = false:=decide_eq_false (by omega)
   replace hf:=Aside0.mk hf
   clear hle
   go_wp2
   go_roundg (rs.length - (i + 1))
   case measure => have:=hk.out; omega
   case rel => exact ⟨i + 1,by simp,by rw [hf.out,List.length_append]; simp,⟨by omega⟩,rfl⟩
  ·have c1b : decide ((i : Int) < (rs.length : Int)) = false:=decide_eq_false (by omega)
   have hil : i = rs.length:=by have:=hk.out; omega
   have hfl : flatP (rs.take i) = flatP rs:=by rw [hil,List.take_length]
   rw [hfl]
   clear hfl hk
   go_wp2_with (fail)
   refine (grow_at W (flatP rs).length W (Below.refl _ _) hn).mono ?_
   rintro e w2 ⟨v,rfl,hR,hB⟩
   replace hR:=Aside0.mk hR
   replace hB:=Aside0.mk hB
   go_wp2
   obtain ⟨i0',hi',hz0,hz1,hz2⟩:=info_parts infoR
   replace hi':=Aside0.mk hi'
   replace hz0:=Aside0.mk hz0
   replace hz1:=Aside0.mk hz1
   replace hz2:=Aside0.mk hz2
   go_loopg [6,27] rs.length (fun kq v6 v27 w' => ∃ (i : Nat),v27 = .int .i64 (i : Int) ∧ Aside0 (i + kq = rs.length) ∧ Aside0 (RowP W w' v6 (flatP (rs.take i))) ∧ Aside0 (Below W.heap.size W w'))
   case atStart => exact ⟨0,rfl,⟨by omega⟩,hR,hB⟩
   case round =>
    clear i hi c1b hil hR hB
    obtain ⟨i,rfl,hk,hR,hB⟩:=hrel
    by_cases hi : i < rs.length
    ·have c1b : decide ((i : Int) < (rs.length : Int)) = true:=decide_eq_true (by omega)
     have i0 : (0 : Int) ≤ (i : Int):=by omega
     have i1 : (i : Int) < (rs.length : Int):=by omega
     have hx:=pw_cell_below hB.out (hg.out i _ (List.getElem?_eq_getElem hi))
     have hrr:=hr.out _ (List.getElem_mem hi)
     have hf:=flatP_take rs i hi
     have hle:=flatP_le rs (i + 1)
     rw [hf,List.length_append] at hle
     have hwi : IntKind.i64.wrap ((i : Int) + 1) = (i : Int) + 1:=wrap_small _ (by omega) (by omega)
     replace hf:=Aside0.mk hf
     obtain ⟨⟨A,c2,xs⟩,hrx⟩ : ∃ r,r = rs[i]:=⟨_,rfl⟩
     rw [← hrx] at hx hrr hf hle
     clear hrx
     simp only at hx hrr hf hle
     cases A with
     | none =>
      have hl0 : xs = []:=List.eq_nil_of_length_eq_zero (by
       rcases Nat.eq_zero_or_pos xs.length with h0 | h0
       ·exact h0
       ·obtain ⟨ad,he,_⟩:=hrr.2.2 h0
        cases he)
      subst hl0
      obtain ⟨A6,c6,rfl,hc6⟩:=hR.out.slice
      clear hrr hle
      go_wp2
      all_goals (try simp only [Sem.run_pure,Result.andThen_ok])
      all_goals go_wp2
      all_goals
       go_roundg (rs.length - (i + 1))
       case measure => have:=hk.out; omega
       case rel => exact ⟨i + 1,by simp,⟨by omega⟩,⟨by rw [hf.out,List.append_nil]; exact hR.out⟩,hB⟩
     | some ad =>
      obtain ⟨inner,hri,hci⟩:=hrr.inner_
      obtain ⟨inner6,hown,hr6⟩:=hR.out
      have h1:=Aside0.mk (repsP_one hri)
      have hl:=Aside0.mk hri.1
      have hn1 : Aside0 ((flatP (rs.take i)).length + xs.length ≤ maxLen):=⟨by unfold maxLen; omega⟩
      have hn2 : Aside0 (((flatP (rs.take i)).length + xs.length) * 112 ≤ 140737488355328):=⟨Nat.le_trans (Nat.mul_le_mul_right 112 (Nat.le_trans hle hn)) (by decide)⟩
      replace hown:=Aside0.mk hown
      replace hr6:=Aside0.mk hr6
      replace hri:=Aside0.mk hri
      replace hci:=Aside0.mk hci
      clear hrr hle
      go_wp2_with (at_builtin; refine wpList_append_own_at _ rfl _ _ 34 rfl W.heap.size 25 i0' _ 7 112 Tryz.underlying34 hi'.out hz0.out hz1.out hz2.out rfl (by omega) _ _ _ rfl hown.out ad xs.length c2 inner rfl hl.out ?qc2 h1.out hn1.out hn2.out hB.out.size ?_)
      case qc2 => exact fun j u hj => pw_cell_below hB.out (hci.out j u hj)
      intro v' w1 hown1 hgrow hnil hblk
      have hB1 : Aside0 (Below W.heap.size W w1):=⟨hB.out.grown hgrow hB.out.size (by
       intro k hk
       rcases hown.out.2 with ⟨rfl,_⟩ | ⟨g6,cap,cur,rfl,hb,_⟩
       ·cases hk
       ·simp [Value.ownBlock] at hk; omega)⟩
      have hR1 : Aside0 (RowP W w1 v' (flatP (rs.take (i + 1)))):=⟨by
       rw [hf.out]
       exact ⟨inner6 ++ inner,by rw [List.length_append]; exact hown1,reps_app hr6.out hri.out⟩⟩
      clear hown1 hgrow hnil hblk
      go_wp2
      go_roundg (rs.length - (i + 1))
      case measure => have:=hk.out; omega
      case rel => exact ⟨i + 1,by simp,⟨by omega⟩,hR1,hB1⟩
    ·have c1b : decide ((i : Int) < (rs.length : Int)) = false:=decide_eq_false (by omega)
     have hil : i = rs.length:=by have:=hk.out; omega
     have hfl : Aside0 (flatP (rs.take i) = flatP rs):=⟨by rw [hil,List.take_length]⟩
     clear hk
     go_wp2
     go_ret
     exact ⟨_,rfl,by rw [← hfl.out]; exact hR.out,hB.out⟩
theorem rr_at {w W : World} {A : Option Addr} {xs : List S25} (h : ReadsRow (RwP w) 7 W A xs.length xs) (i : Nat) (hi : i < xs.length) :
  ∃ (ad : Addr) (X5 : Option Addr) (x5 : Nat) (X6 : Option Addr) (x6 : Nat),A = some ad ∧ Rd w xs[i] X5 x5 X6 x6 ∧ W.cell? (ad.add (i * 7)) = some (.int .i64 xs[i].f0) ∧ W.cell? ⟨(ad.add (i * 7)).block,(ad.add (i * 7)).off + 1,none⟩ = some (.string xs[i].f1) ∧ W.cell? ⟨(ad.add (i * 7)).block,(ad.add (i * 7)).off + 2,none⟩ = some (.string xs[i].f2) ∧ W.cell? ⟨(ad.add (i * 7)).block,(ad.add (i * 7)).off + 3,none⟩ = some (.string xs[i].f3) ∧ W.cell? ⟨(ad.add (i * 7)).block,(ad.add (i * 7)).off + 4,none⟩ = some (.int .i64 xs[i].f4) ∧ W.cell? ⟨(ad.add (i * 7)).block,(ad.add (i * 7)).off + 5,none⟩ = some (.slice X5 xs[i].f5.length x5) ∧ W.cell? ⟨(ad.add (i * 7)).block,(ad.add (i * 7)).off + 6,none⟩ = some (.slice X6 xs[i].f6.length x6):=by
 obtain ⟨ad,rfl,hh⟩:=h.2.2 (by omega)
 obtain ⟨cl,hcl,⟨X5,x5,X6,x6,rfl,rx⟩,hcell⟩:=hh i _ (List.getElem?_eq_getElem hi)
 exact ⟨ad,X5,x5,X6,x6,rfl,rx,hcell 0 _ rfl,by rw [← add_field _ _ 1 (by omega)]; exact hcell 1 _ rfl,by rw [← add_field _ _ 2 (by omega)]; exact hcell 2 _ rfl,by rw [← add_field _ _ 3 (by omega)]; exact hcell 3 _ rfl,by rw [← add_field _ _ 4 (by omega)]; exact hcell 4 _ rfl,by rw [← add_field _ _ 5 (by omega)]; exact hcell 5 _ rfl,by rw [← add_field _ _ 6 (by omega)]; exact hcell 6 _ rfl⟩
theorem own_set7 {W : World} {w : World} {base g : Nat} {v : Value} {xs : List S25} (h : OwnRow (RwP w) 25 7 W base v xs) (hg : g < base) (v0 v1 v2 v3 v4 v5 v6 : Value) :
  OwnRow (RwP w) 25 7 (((((((W.setCell ⟨g,0,none⟩ v0).setCell ⟨g,1,none⟩ v1).setCell ⟨g,2,none⟩ v2).setCell ⟨g,3,none⟩ v3).setCell ⟨g,4,none⟩ v4).setCell ⟨g,5,none⟩ v5).setCell ⟨g,6,none⟩ v6) base v xs:=by
 have ne : some g ≠ v.ownBlock:=fun e => by
  obtain ⟨_,ho,_⟩:=h
  have:=own_base ho g e.symm
  omega
 obtain ⟨inner,ho,hr⟩:=h
 exact ⟨inner,own_setCell (own_setCell (own_setCell (own_setCell (own_setCell (own_setCell (own_setCell ho (p:=⟨g,0,none⟩) ne v0) (p:=⟨g,1,none⟩) ne v1) (p:=⟨g,2,none⟩) ne v2) (p:=⟨g,3,none⟩) ne v3) (p:=⟨g,4,none⟩) ne v4) (p:=⟨g,5,none⟩) ne v5) (p:=⟨g,6,none⟩) ne v6,hr⟩
theorem own_drew {W : World} {w : World} {base : Nat} {v : Value} {xs : List S25} (h : OwnRow (RwP w) 25 7 W base v xs) : OwnRow (RwP w) 25 7 W.drew base v xs:=h.below (below_drew (Below.refl _ _))
theorem ne_base {w W : World} {base g : Nat} {v : Value} {xs : List S25} (h : OwnRow (RwP w) 25 7 W base v xs) (hg : g < base) : some g ≠ v.ownBlock:=fun e => by
 obtain ⟨_,ho,_⟩:=h
 have:=own_base ho g e.symm
 omega
theorem ne_new {w W : World} {base g : Nat} {v : Value} {xs : List S25} (h : OwnRow (RwP w) 25 7 W base v xs) (hg : W.heap.size ≤ g) : some g ≠ v.ownBlock:=fun e => by
 obtain ⟨_,ho,_⟩:=h
 have:=own_lt ho g e.symm
 omega
theorem rd_none (W : World) (x : S25) (h5 : x.f5 = []) (h6 : x.f6 = []) : Rd W x none 0 none 0:=by
 rw [show x = { x with f5:=[],f6:=[] } from by cases x; cases h5; cases h6; rfl]
 exact ⟨Kd.C_nil _ _,Nat.le_refl _,Kd.C_nil _ _,Nat.le_refl _⟩
def PastRow (w W : World) (p : S25) (l : List S25) (e : Ending) (w' : World) : Prop :=
 ∃ v C5 e5 C6 e6,e = .returned (.tuple #[v,.agg (cs (past p l).2.1 C5 e5 C6 e6),.bool (past p l).2.2]) ∧ OwnRow (RwP w) 25 7 w' W.heap.size v (past p l).1 ∧ Rd w (past p l).2.1 C5 e5 C6 e6 ∧ Below W.heap.size W w'
set_option maxHeartbeats 16000000 in
set_option maxRecDepth 100000 in
theorem past_row (w : World) (p : S25) (l : List S25) (A5 : Option Addr) (a5 : Nat) (A6 : Option Addr) (a6 : Nat) (A : Option Addr) (c : Nat) (W : World) (hB0 : Below w.heap.size w W) (hp : Okp p) (hl : ∀ x ∈ l,Okp x) (hn : l.length ≤ 1256584717458) (rp : Rd w p A5 a5 A6 a6) (gl : ReadsRow (RwP w) 7 W A l.length l) :
  Calls Tryz.prog 43 #[.agg #[.int .i64 p.f0,.string p.f1,.string p.f2,.string p.f3,.int .i64 p.f4,.slice A5 p.f5.length a5,.slice A6 p.f6.length a6],.slice A l.length c] W (PastRow w W p l):=by
 replace hB0:=Aside0.mk hB0
 replace rp:=Aside0.mk rp
 replace gl:=Aside0.mk gl
 go_enter Tryz.func43,Tryz.ntmps43
 go_wp2
 go_loopg [7,15] l.length (fun kq v7 v15 w' => ∃ (i : Nat) (ys : List S25) (p' : S25) (C5 : Option Addr) (e5 : Nat) (C6 : Option Addr) (e6 : Nat),v15 = .int .i64 (i : Int) ∧ Aside0 (i + kq = l.length) ∧ Aside0 (pastS p l = (pastS p' (l.drop i)).map (fun r => (ys ++ r.1,r.2))) ∧ Aside0 (ys.length = i) ∧ Aside0 (Okp p') ∧ Aside0 (Rd w p' C5 e5 C6 e6) ∧ Aside0 (OwnRow (RwP w) 25 7 w' (W.heap.size + 2) v7 ys) ∧ Aside0 (w'.heap[W.heap.size]? = some (.cells #[.int .i64 p'.f0,.string p'.f1,.string p'.f2,.string p'.f3,.int .i64 p'.f4,.slice C5 p'.f5.length e5,.slice C6 p'.f6.length e6] 25 (0,0))) ∧ Aside0 (w'.heap[W.heap.size + 1]? = some (.cells zeroC 25 (0,0))) ∧ Aside0 (Below W.heap.size W w'))
 case atStart => exact ⟨0,[],p,A5,a5,A6,a6,rfl,⟨by omega⟩,⟨by cases h : pastS p l with | none => rw [List.drop_zero,h]; rfl | some r => rw [List.drop_zero,h]; rfl⟩,⟨rfl⟩,⟨hp⟩,rp,⟨OwnRow.none_ _ _ _ _ _⟩,⟨box1 W _ _⟩,⟨box2 W _ _⟩,⟨((Below.refl _ W).alloc (Nat.le_refl _) _).alloc (by simp) _⟩⟩
 case round =>
  obtain ⟨i,ys,p',C5,e5,C6,e6,rfl,hk,hpast,hlen,hp',rp',hN,xp,xr,hB⟩:=hrel
  by_cases hi : i < l.length
  ·have c1b : decide ((i : Int) < (l.length : Int)) = true:=decide_eq_true (by omega)
   obtain ⟨ad,X5,x5,X6,x6,eA,rx,y0,y1,y2,y3,y4,y5,y6⟩:=rr_at gl.out i hi
   obtain ⟨x,hxm⟩ : ∃ x,x = l[i]:=⟨_,rfl⟩
   rw [← hxm] at rx y0 y1 y2 y3 y4 y5 y6
   have hox : Okp x:=by rw [hxm]; exact hl _ (List.getElem_mem hi)
   have hbW:=hB.out
   have i0 : (0 : Int) ≤ (i : Int):=by omega
   have i1 : (i : Int) < (l.length : Int):=by omega
   have z0:=pw_cell_below hbW y0
   have z1:=pw_cell_below hbW y1
   have z2:=pw_cell_below hbW y2
   have z3:=pw_cell_below hbW y3
   have z4:=pw_cell_below hbW y4
   have z5:=pw_cell_below hbW y5
   have z6:=pw_cell_below hbW y6
   clear y0 y1 y2 y3 y4 y5 y6
   subst eA
   have hszw:=hbW.size
   have hBw : Aside0 (Below w.heap.size w wr):=⟨hB0.out.trans (hB.out.mono hB0.out.size)⟩
   have hsz0 : Aside0 (w.heap.size ≤ W.heap.size):=⟨hB0.out.size⟩
   have hdrop : l.drop i = x :: l.drop (i + 1):=by rw [hxm]; exact List.drop_eq_getElem_cons hi
   have hdr:=Aside0.mk hdrop
   clear hdrop hbW hxm
   have pc0 : wr.cell? ⟨W.heap.size,0,none⟩ = some (.int .i64 p'.f0):=(blk_cell xp.out 0).trans rfl
   have pc1 : wr.cell? ⟨W.heap.size,1,none⟩ = some (.string p'.f1):=(blk_cell xp.out 1).trans rfl
   have pc2 : wr.cell? ⟨W.heap.size,2,none⟩ = some (.string p'.f2):=(blk_cell xp.out 2).trans rfl
   have pc3 : wr.cell? ⟨W.heap.size,3,none⟩ = some (.string p'.f3):=(blk_cell xp.out 3).trans rfl
   have pc4 : wr.cell? ⟨W.heap.size,4,none⟩ = some (.int .i64 p'.f4):=(blk_cell xp.out 4).trans rfl
   have pc5 : wr.cell? ⟨W.heap.size,5,none⟩ = some (.slice C5 p'.f5.length e5):=(blk_cell xp.out 5).trans rfl
   have pc6 : wr.cell? ⟨W.heap.size,6,none⟩ = some (.slice C6 p'.f6.length e6):=(blk_cell xp.out 6).trans rfl
   have pd0 : ∀ o,(wr.alloc o).cell? ⟨W.heap.size,0,none⟩ = some (.int .i64 p'.f0):=fun o => (blk_cell (blk_alloc xp.out o) 0).trans rfl
   have pd1 : ∀ o,(wr.alloc o).cell? ⟨W.heap.size,1,none⟩ = some (.string p'.f1):=fun o => (blk_cell (blk_alloc xp.out o) 1).trans rfl
   have pd2 : ∀ o,(wr.alloc o).cell? ⟨W.heap.size,2,none⟩ = some (.string p'.f2):=fun o => (blk_cell (blk_alloc xp.out o) 2).trans rfl
   have pd3 : ∀ o,(wr.alloc o).cell? ⟨W.heap.size,3,none⟩ = some (.string p'.f3):=fun o => (blk_cell (blk_alloc xp.out o) 3).trans rfl
   have pd4 : ∀ o,(wr.alloc o).cell? ⟨W.heap.size,4,none⟩ = some (.int .i64 p'.f4):=fun o => (blk_cell (blk_alloc xp.out o) 4).trans rfl
   have pd5 : ∀ o,(wr.alloc o).cell? ⟨W.heap.size,5,none⟩ = some (.slice C5 p'.f5.length e5):=fun o => (blk_cell (blk_alloc xp.out o) 5).trans rfl
   have pd6 : ∀ o,(wr.alloc o).cell? ⟨W.heap.size,6,none⟩ = some (.slice C6 p'.f6.length e6):=fun o => (blk_cell (blk_alloc xp.out o) 6).trans rfl
   replace rx:=Aside0.mk rx
   go_wp2_with (fail)
   refine (comm_at p' x C5 e5 C6 e6 X5 x5 X6 x6 _ hp'.out hox ((rp'.out.below hBw.out).below (by repeat (first | exact Below.refl _ _ | refine Below.setCell ?_ (by simp <;> omega) _ | refine Below.alloc ?_ (by simp <;> omega) _ | refine Below.drew ?_))) ((rx.out.below hBw.out).below (by repeat (first | exact Below.refl _ _ | refine Below.setCell ?_ (by simp <;> omega) _ | refine Below.alloc ?_ (by simp <;> omega) _ | refine Below.drew ?_)))).mono ?_
   rintro e w2 ⟨h4,hb2⟩
   clear pc0 pc1 pc2 pc3 pc4 pc5 pc6 z0 pd0 z1 pd1 z2 pd2 z3 pd3 z4 pd4 z5 pd5 z6 pd6
   have hs2 : Below wr.heap.size wr w2:=two_steps (by repeat (first | exact Below.refl _ _ | refine Below.setCell ?_ (by simp <;> omega) _ | refine Below.alloc ?_ (by simp <;> omega) _ | refine Below.drew ?_)) hb2
   clear hb2
   have hB2 : Aside0 (Below W.heap.size W w2):=⟨hB.out.trans (hs2.mono hB.out.size)⟩
   have xp2:=blk_below xp.out hs2
   have xr2:=blk_below xr.out hs2
   have hN2:=Aside0.mk (hN.out.below hs2)
   have hsz2:=hs2.size
   clear hs2
   rcases h4 with ⟨hn4,rfl⟩ | ⟨a,b,hy,rfl⟩
   ·have hno:=Aside0.mk hn4
    clear hn4
    have xc0 : ∀ o o',((w2.alloc o).alloc o').cell? ⟨W.heap.size + 1,0,none⟩ = some (.int .i64 0):=fun o o' => (blk_cell (blk_alloc (blk_alloc xr2 o) o') 0).trans rfl
    have xc1 : ∀ o o',((w2.alloc o).alloc o').cell? ⟨W.heap.size + 1,1,none⟩ = some (.string ⟨#[]⟩):=fun o o' => (blk_cell (blk_alloc (blk_alloc xr2 o) o') 1).trans rfl
    have xc2 : ∀ o o',((w2.alloc o).alloc o').cell? ⟨W.heap.size + 1,2,none⟩ = some (.string ⟨#[]⟩):=fun o o' => (blk_cell (blk_alloc (blk_alloc xr2 o) o') 2).trans rfl
    have xc3 : ∀ o o',((w2.alloc o).alloc o').cell? ⟨W.heap.size + 1,3,none⟩ = some (.string ⟨#[]⟩):=fun o o' => (blk_cell (blk_alloc (blk_alloc xr2 o) o') 3).trans rfl
    have xc4 : ∀ o o',((w2.alloc o).alloc o').cell? ⟨W.heap.size + 1,4,none⟩ = some (.int .i64 0):=fun o o' => (blk_cell (blk_alloc (blk_alloc xr2 o) o') 4).trans rfl
    have xc5 : ∀ o o',((w2.alloc o).alloc o').cell? ⟨W.heap.size + 1,5,none⟩ = some (.slice none 0 0):=fun o o' => (blk_cell (blk_alloc (blk_alloc xr2 o) o') 5).trans rfl
    have xc6 : ∀ o o',((w2.alloc o).alloc o').cell? ⟨W.heap.size + 1,6,none⟩ = some (.slice none 0 0):=fun o o' => (blk_cell (blk_alloc (blk_alloc xr2 o) o') 6).trans rfl
    have xf0 : ∀ o o',((w2.alloc o).alloc o').frozen? ⟨W.heap.size + 1,0,none⟩ = false:=fun o o' => blk_frozen (blk_alloc (blk_alloc xr2 o) o') 0
    have xf1 : ∀ o o',((w2.alloc o).alloc o').frozen? ⟨W.heap.size + 1,1,none⟩ = false:=fun o o' => blk_frozen (blk_alloc (blk_alloc xr2 o) o') 1
    have xf2 : ∀ o o',((w2.alloc o).alloc o').frozen? ⟨W.heap.size + 1,2,none⟩ = false:=fun o o' => blk_frozen (blk_alloc (blk_alloc xr2 o) o') 2
    have xf3 : ∀ o o',((w2.alloc o).alloc o').frozen? ⟨W.heap.size + 1,3,none⟩ = false:=fun o o' => blk_frozen (blk_alloc (blk_alloc xr2 o) o') 3
    have xf4 : ∀ o o',((w2.alloc o).alloc o').frozen? ⟨W.heap.size + 1,4,none⟩ = false:=fun o o' => blk_frozen (blk_alloc (blk_alloc xr2 o) o') 4
    have xf5 : ∀ o o',((w2.alloc o).alloc o').frozen? ⟨W.heap.size + 1,5,none⟩ = false:=fun o o' => blk_frozen (blk_alloc (blk_alloc xr2 o) o') 5
    have xf6 : ∀ o o',((w2.alloc o).alloc o').frozen? ⟨W.heap.size + 1,6,none⟩ = false:=fun o o' => blk_frozen (blk_alloc (blk_alloc xr2 o) o') 6
    have hz : Aside0 (past p l = ([],z25,false)):=⟨by unfold past; rw [hpast.out,hdr.out,pastS,hno.out,if_neg (by simp)]; rfl⟩
    go_wp2
    (try simp only [Exit.noGoto_ret,Exit.inBlock,Exit.then])
    refine bodyPost_ret (ret26 (gy:=W.heap.size + 1) (y0:=.int .i64 0) (y1:=.string ⟨#[]⟩) (y2:=.string ⟨#[]⟩) (y3:=.string ⟨#[]⟩) (y4:=.int .i64 0) (y5:=.slice none 0 0) (y6:=.slice none 0 0) rfl rfl rfl ?_) rfl ?_
    ·exact set7 ((blk_alloc (blk_alloc xr2 _) _)) rfl _ _ _ _ _ _ _
    ·unfold PastRow
     rw [hz.out]
     exact ⟨_,none,0,none,0,rfl,OwnRow.none_ _ _ _ _ _,rd_none _ _ rfl rfl,below7 ((hB2.out.alloc hB2.out.size _).alloc (by have:=hB2.out.size; simp; omega) _) (by omega) _ _ _ _ _ _ _⟩
   ·cases gk with
    | zero => have:=hk.out; omega
    | succ k1 =>
     obtain ⟨kb,ka⟩:=rule_keep hy.r
     have ra : Aside0 (Rd w a X5 x5 X6 x6):=⟨rx.out.of (by rw [ka]) (by rw [ka])⟩
     have rb : Aside0 (Rd w b C5 e5 C6 e6):=⟨rp'.out.of (by rw [kb]) (by rw [kb])⟩
     clear ka kb
     have hob : Okp b:=(okp_yes hy hp'.out hox).2
     have hcy:=Aside0.mk (comm_of hy)
     have hNA : Aside0 (OwnRow (RwP w) 25 7 ((w2.alloc (.cells #[.int .i64 a.f0,.string a.f1,.string a.f2,.string a.f3,.int .i64 a.f4,.slice X5 a.f5.length x5,.slice X6 a.f6.length x6] 25)).alloc (.cells #[.int .i64 b.f0,.string b.f1,.string b.f2,.string b.f3,.int .i64 b.f4,.slice C5 b.f5.length e5,.slice C6 b.f6.length e6] 25)) (W.heap.size + 2) u7 ys):=⟨(hN2.out.below (below_alloc (Below.refl _ _) _)).below (below_alloc (Below.refl _ _) _)⟩
     have hSA : Aside0 (W.heap.size + 2 ≤ ((w2.alloc (.cells #[.int .i64 a.f0,.string a.f1,.string a.f2,.string a.f3,.int .i64 a.f4,.slice X5 a.f5.length x5,.slice X6 a.f6.length x6] 25)).alloc (.cells #[.int .i64 b.f0,.string b.f1,.string b.f2,.string b.f3,.int .i64 b.f4,.slice C5 b.f5.length e5,.slice C6 b.f6.length e6] 25)).heap.size):=⟨by have:=blk_lt xr2; simp; omega⟩
     have hLA : Aside0 ((ys.length + 1) * 112 ≤ 140737488355328):=⟨Nat.le_trans (Nat.mul_le_mul_right 112 (show ys.length + 1 ≤ 1256584717458 by have:=hlen.out; omega)) (by decide)⟩
     have n1 : some (w2.heap.size + 1) ≠ u7.ownBlock:=ne_new hN2.out (by omega)
     have n2 : some W.heap.size ≠ u7.ownBlock:=ne_base hN.out (by omega)
     have n3 : some (W.heap.size + 1) ≠ u7.ownBlock:=ne_base hN.out (by omega)
     have hbA : Aside0 (∀ w3,((w2.alloc (.cells #[.int .i64 a.f0,.string a.f1,.string a.f2,.string a.f3,.int .i64 a.f4,.slice X5 a.f5.length x5,.slice X6 a.f6.length x6] 25)).alloc (.cells #[.int .i64 b.f0,.string b.f1,.string b.f2,.string b.f3,.int .i64 b.f4,.slice C5 b.f5.length e5,.slice C6 b.f6.length e6] 25)).grownBy w3 u7.ownBlock → Below W.heap.size W w3):=⟨fun w3 hg => ((hB2.out.alloc hB2.out.size _).alloc (by have:=hB2.out.size; simp; omega) _).grown hg (by have:=hB2.out.size; simp; omega) (fun k hk => by obtain ⟨_,ho,_⟩:=hN.out; have:=own_base ho k hk; omega)⟩
     have xbA : Aside0 (∀ w3,((w2.alloc (.cells #[.int .i64 a.f0,.string a.f1,.string a.f2,.string a.f3,.int .i64 a.f4,.slice X5 a.f5.length x5,.slice X6 a.f6.length x6] 25)).alloc (.cells #[.int .i64 b.f0,.string b.f1,.string b.f2,.string b.f3,.int .i64 b.f4,.slice C5 b.f5.length e5,.slice C6 b.f6.length e6] 25)).grownBy w3 u7.ownBlock → w3.heap[w2.heap.size + 1]? = some (.cells #[.int .i64 b.f0,.string b.f1,.string b.f2,.string b.f3,.int .i64 b.f4,.slice C5 b.f5.length e5,.slice C6 b.f6.length e6] 25 (0,0))):=⟨fun w3 hg => (hg.block _ (by simp) n1).trans (box2 _ _ _)⟩
     have xpA : Aside0 (∀ w3,((w2.alloc (.cells #[.int .i64 a.f0,.string a.f1,.string a.f2,.string a.f3,.int .i64 a.f4,.slice X5 a.f5.length x5,.slice X6 a.f6.length x6] 25)).alloc (.cells #[.int .i64 b.f0,.string b.f1,.string b.f2,.string b.f3,.int .i64 b.f4,.slice C5 b.f5.length e5,.slice C6 b.f6.length e6] 25)).grownBy w3 u7.ownBlock → w3.heap[W.heap.size]? = some (.cells #[.int .i64 p'.f0,.string p'.f1,.string p'.f2,.string p'.f3,.int .i64 p'.f4,.slice C5 p'.f5.length e5,.slice C6 p'.f6.length e6] 25 (0,0))):=⟨fun w3 hg => (hg.block _ (by have:=blk_lt xp2; simp; omega) n2).trans (blk_alloc (blk_alloc xp2 _) _)⟩
     have xrA : Aside0 (∀ w3,((w2.alloc (.cells #[.int .i64 a.f0,.string a.f1,.string a.f2,.string a.f3,.int .i64 a.f4,.slice X5 a.f5.length x5,.slice X6 a.f6.length x6] 25)).alloc (.cells #[.int .i64 b.f0,.string b.f1,.string b.f2,.string b.f3,.int .i64 b.f4,.slice C5 b.f5.length e5,.slice C6 b.f6.length e6] 25)).grownBy w3 u7.ownBlock → w3.heap[W.heap.size + 1]? = some (.cells zeroC 25 (0,0))):=⟨fun w3 hg => (hg.block _ (by have:=blk_lt xr2; simp; omega) n3).trans (blk_alloc (blk_alloc xr2 _) _)⟩
     have hszT : Aside0 (((w2.alloc (.cells #[.int .i64 a.f0,.string a.f1,.string a.f2,.string a.f3,.int .i64 a.f4,.slice X5 a.f5.length x5,.slice X6 a.f6.length x6] 25)).alloc (.cells #[.int .i64 b.f0,.string b.f1,.string b.f2,.string b.f3,.int .i64 b.f4,.slice C5 b.f5.length e5,.slice C6 b.f6.length e6] 25)).heap.size = w2.heap.size + 1 + 1):=⟨by simp⟩
     have hyy:=Aside0.mk hy
     clear hy n1 n2 n3
     go_wp2_with (((with_reducible refine gate_builtin (b:=.append) (xs:=#[.tmp 29,.tmp 31]) rfl ?_); at_builtin; refine OwnRow.append (R:=RwP w) (w0:=((w2.alloc (.cells #[.int .i64 a.f0,.string a.f1,.string a.f2,.string a.f3,.int .i64 a.f4,.slice X5 a.f5.length x5,.slice X6 a.f6.length x6] 25)).alloc (.cells #[.int .i64 b.f0,.string b.f1,.string b.f2,.string b.f3,.int .i64 b.f4,.slice C5 b.f5.length e5,.slice C6 b.f6.length e6] 25))) (W.heap.size + 2) rfl (.tmp 29) (.tmp 31) 34 25 (.agg #[(.int .i64 0),(.string ⟨#[]⟩),(.string ⟨#[]⟩),(.string ⟨#[]⟩),(.int .i64 0),(.slice none 0 0),(.slice none 0 0)]) 7 112 rfl Tryz.underlying34 infoR rfl (by decide) (by omega) u7 ys a [.int .i64 a.f0,.string a.f1,.string a.f2,.string a.f3,.int .i64 a.f4,.slice X5 a.f5.length x5,.slice X6 a.f6.length x6] rfl ?aX ?aP rfl (rwP_one (w:=w)) ?aO (Below.refl _ _) ?aS ?aL ?_; (case aX => exact congrArg (fun n => Value.slice (some ⟨n,0,none⟩) 1 1) hszT.out.symm); (case aP => exact ⟨_,_,_,_,rfl,ra.out⟩); (case aO => exact hNA.out); (case aS => exact hSA.out); (case aL => exact hLA.out); intro y1 w3 hN3 hB3 hg3 hat3; have xb3:=xbA.out _ hg3; have xp3:=xpA.out _ hg3; have xr3:=xrA.out _ hg3; replace hB3:=hbA.out _ hg3; have bc0 : w3.cell? ⟨w2.heap.size + 1,0,none⟩ = some (.int .i64 b.f0):=(blk_cell xb3 0).trans rfl; have bc1 : w3.cell? ⟨w2.heap.size + 1,1,none⟩ = some (.string b.f1):=(blk_cell xb3 1).trans rfl; have bc2 : w3.cell? ⟨w2.heap.size + 1,2,none⟩ = some (.string b.f2):=(blk_cell xb3 2).trans rfl; have bc3 : w3.cell? ⟨w2.heap.size + 1,3,none⟩ = some (.string b.f3):=(blk_cell xb3 3).trans rfl; have bc4 : w3.cell? ⟨w2.heap.size + 1,4,none⟩ = some (.int .i64 b.f4):=(blk_cell xb3 4).trans rfl; have bc5 : w3.cell? ⟨w2.heap.size + 1,5,none⟩ = some (.slice C5 b.f5.length e5):=(blk_cell xb3 5).trans rfl; have bc6 : w3.cell? ⟨w2.heap.size + 1,6,none⟩ = some (.slice C6 b.f6.length e6):=(blk_cell xb3 6).trans rfl; have pc0 : w3.cell? ⟨W.heap.size,0,none⟩ = some (.int .i64 p'.f0):=(blk_cell xp3 0).trans rfl; have pc1 : w3.cell? ⟨W.heap.size,1,none⟩ = some (.string p'.f1):=(blk_cell xp3 1).trans rfl; have pc2 : w3.cell? ⟨W.heap.size,2,none⟩ = some (.string p'.f2):=(blk_cell xp3 2).trans rfl; have pc3 : w3.cell? ⟨W.heap.size,3,none⟩ = some (.string p'.f3):=(blk_cell xp3 3).trans rfl; have pc4 : w3.cell? ⟨W.heap.size,4,none⟩ = some (.int .i64 p'.f4):=(blk_cell xp3 4).trans rfl; have pc5 : w3.cell? ⟨W.heap.size,5,none⟩ = some (.slice C5 p'.f5.length e5):=(blk_cell xp3 5).trans rfl; have pc6 : w3.cell? ⟨W.heap.size,6,none⟩ = some (.slice C6 p'.f6.length e6):=(blk_cell xp3 6).trans rfl; have pf0:=blk_frozen xp3 0; have pf1:=blk_frozen xp3 1; have pf2:=blk_frozen xp3 2; have pf3:=blk_frozen xp3 3; have pf4:=blk_frozen xp3 4; have pf5:=blk_frozen xp3 5; have pf6:=blk_frozen xp3 6))
     go_roundg k1
     case measure => omega
     case rel =>
      refine ⟨i + 1,ys ++ [a],b,C5,e5,C6,e6,?_,⟨by have:=hk.out; omega⟩,⟨?_⟩,⟨by have:=hlen.out; simp; omega⟩,⟨hob⟩,rb,⟨own_set7 hN3 (by omega) _ _ _ _ _ _ _⟩,⟨set7 xp3 rfl _ _ _ _ _ _ _⟩,⟨(keep7 (by omega) _ _ _ _ _ _ _).trans xr3⟩,⟨below7 hB3 (Nat.le_refl _) _ _ _ _ _ _ _⟩⟩
      ·first | rfl | (rw [wrap_1 hi (by omega)])
      ·rw [hpast.out,hdr.out,pastS,hcy.out,if_pos rfl]
       cases pastS b (l.drop (i + 1)) with
       | none => rfl
       | some r => simp
  ·have c1b : decide ((i : Int) < (l.length : Int)) = false:=decide_eq_false (by omega)
   have pc0 : wr.cell? ⟨W.heap.size,0,none⟩ = some (.int .i64 p'.f0):=(blk_cell xp.out 0).trans rfl
   have pc1 : wr.cell? ⟨W.heap.size,1,none⟩ = some (.string p'.f1):=(blk_cell xp.out 1).trans rfl
   have pc2 : wr.cell? ⟨W.heap.size,2,none⟩ = some (.string p'.f2):=(blk_cell xp.out 2).trans rfl
   have pc3 : wr.cell? ⟨W.heap.size,3,none⟩ = some (.string p'.f3):=(blk_cell xp.out 3).trans rfl
   have pc4 : wr.cell? ⟨W.heap.size,4,none⟩ = some (.int .i64 p'.f4):=(blk_cell xp.out 4).trans rfl
   have pc5 : wr.cell? ⟨W.heap.size,5,none⟩ = some (.slice C5 p'.f5.length e5):=(blk_cell xp.out 5).trans rfl
   have pc6 : wr.cell? ⟨W.heap.size,6,none⟩ = some (.slice C6 p'.f6.length e6):=(blk_cell xp.out 6).trans rfl
   have xc0 : wr.cell? ⟨W.heap.size + 1,0,none⟩ = some (.int .i64 0):=(blk_cell xr.out 0).trans rfl
   have xc1 : wr.cell? ⟨W.heap.size + 1,1,none⟩ = some (.string ⟨#[]⟩):=(blk_cell xr.out 1).trans rfl
   have xc2 : wr.cell? ⟨W.heap.size + 1,2,none⟩ = some (.string ⟨#[]⟩):=(blk_cell xr.out 2).trans rfl
   have xc3 : wr.cell? ⟨W.heap.size + 1,3,none⟩ = some (.string ⟨#[]⟩):=(blk_cell xr.out 3).trans rfl
   have xc4 : wr.cell? ⟨W.heap.size + 1,4,none⟩ = some (.int .i64 0):=(blk_cell xr.out 4).trans rfl
   have xc5 : wr.cell? ⟨W.heap.size + 1,5,none⟩ = some (.slice none 0 0):=(blk_cell xr.out 5).trans rfl
   have xc6 : wr.cell? ⟨W.heap.size + 1,6,none⟩ = some (.slice none 0 0):=(blk_cell xr.out 6).trans rfl
   have xf0:=blk_frozen xr.out 0
   have xf1:=blk_frozen xr.out 1
   have xf2:=blk_frozen xr.out 2
   have xf3:=blk_frozen xr.out 3
   have xf4:=blk_frozen xr.out 4
   have xf5:=blk_frozen xr.out 5
   have xf6:=blk_frozen xr.out 6
   have hz : Aside0 (past p l = (ys,p',true)):=⟨by unfold past; rw [hpast.out,List.drop_of_length_le (by omega),pastS]; simp⟩
   obtain ⟨D,d,rfl,hd⟩:=hN.out.slice_
   go_wp2
   all_goals go_region
   all_goals go_wp2
   all_goals
    refine bodyPost_ret (ret26 (gy:=W.heap.size + 1) (y0:=.int .i64 p'.f0) (y1:=.string p'.f1) (y2:=.string p'.f2) (y3:=.string p'.f3) (y4:=.int .i64 p'.f4) (y5:=.slice C5 p'.f5.length e5) (y6:=.slice C6 p'.f6.length e6) rfl rfl rfl ?_) rfl ?_
    ·exact drew_at (set7 xr.out rfl _ _ _ _ _ _ _)
    ·unfold PastRow
     rw [hz.out]
     have hbz:=Below.drew (below7 hB.out (g:=W.heap.size + 1) (by omega) (.int .i64 p'.f0) (.string p'.f1) (.string p'.f2) (.string p'.f3) (.int .i64 p'.f4) (.slice C5 p'.f5.length e5) (.slice C6 p'.f6.length e6))
     exact ⟨_,C5,e5,C6,e6,rfl,(own_drew (own_set7 hN.out (by omega) _ _ _ _ _ _ _)).lower (by omega),rp'.out,hbz⟩
theorem cutP {S G : Nat → Value → Option Addr → Nat → Option Addr → Nat → World → Prop} {goal : Prop} (h : (∀ g v C5 e5 C6 e6 W,S g v C5 e5 C6 e6 W → G g v C5 e5 C6 e6 W) → goal) (h2 : ∀ g v C5 e5 C6 e6 W,S g v C5 e5 C6 e6 W → G g v C5 e5 C6 e6 W) : goal:=h h2
theorem past_no {p : S25} {l : List S25} (h : pastS p l = none) : past p l = ([],z25,false):=by unfold past; rw [h]
theorem past_yes {p : S25} {l : List S25} {y : List S25} {r : S25} (h : pastS p l = some (y,r)) : past p l = (y,r,true):=by unfold past; rw [h]
structure PB (w wr : World) (t : List S25 × S25 × Bool) (b : Array Value) (g : Nat) (v : Value) (C5 : Option Addr) (e5 : Nat) (C6 : Option Addr) (e6 : Nat) (W : World) : Prop where
 below : Below wr.heap.size wr W
 ge : wr.heap.size ≤ g
 box : W.heap[g]? = some (.cells b 25 (0,0))
 row : OwnRow (RwP w) 25 7 W wr.heap.size v t.1
 ne : some g ≠ v.ownBlock
 rd : Rd w t.2.1 C5 e5 C6 e6
theorem PB.set {w wr W : World} {t : List S25 × S25 × Bool} {b : Array Value} {g : Nat} {v : Value} {C5 : Option Addr} {e5 : Nat} {C6 : Option Addr} {e6 : Nat} (h : PB w wr t b g v C5 e5 C6 e6 W) (hb : b.size = 7) (v0 v1 v2 v3 v4 v5 v6 : Value) :
  PB w wr t #[v0,v1,v2,v3,v4,v5,v6] g v C5 e5 C6 e6 (((((((W.setCell ⟨g,0,none⟩ v0).setCell ⟨g,1,none⟩ v1).setCell ⟨g,2,none⟩ v2).setCell ⟨g,3,none⟩ v3).setCell ⟨g,4,none⟩ v4).setCell ⟨g,5,none⟩ v5).setCell ⟨g,6,none⟩ v6):=by
 obtain ⟨inner,ho,hr⟩:=h.row
 exact ⟨below7 h.below h.ge v0 v1 v2 v3 v4 v5 v6,h.ge,set7 h.box hb v0 v1 v2 v3 v4 v5 v6,⟨inner,own_setCell (own_setCell (own_setCell (own_setCell (own_setCell (own_setCell (own_setCell ho (p:=⟨g,0,none⟩) h.ne v0) (p:=⟨g,1,none⟩) h.ne v1) (p:=⟨g,2,none⟩) h.ne v2) (p:=⟨g,3,none⟩) h.ne v3) (p:=⟨g,4,none⟩) h.ne v4) (p:=⟨g,5,none⟩) h.ne v5) (p:=⟨g,6,none⟩) h.ne v6,hr⟩,h.ne,h.rd⟩
theorem rw_up {w w' : World} (hb : Below w.heap.size w w') {x : S25} {c : List Value} (h : RwP w x c) : RwP w' x c:=by
 obtain ⟨X5,x5,X6,x6,e,r⟩:=h
 exact ⟨X5,x5,X6,x6,e,r.below hb⟩
theorem rr_C {w W : World} {A : Option Addr} {n : Nat} {xs : List S25} (h : ReadsRow (RwP w) 7 W A n xs) (hb : Below w.heap.size w W) : Kd.C k25 W A n xs:=by
 refine ReadsRow.imp_ h (Below.refl _ _) ?_
 rintro p cl ⟨X5,x5,X6,x6,rfl,rx⟩
 exact k25_mk W p rx.l5 (Kd.C_below rx.g5 hb) rx.l6 (Kd.C_below rx.g6 hb)
def lastS (l : List S25) (i : Nat) : List S25 × Bool:=match l[i]? with
 | none => ([],false)
 | some x => match pastS x (l.drop (i + 1)) with
  | none => ([],false)
  | some r => (l.take i ++ (r.1 ++ [r.2]),true)
def lastP (l : List S25) (k : Int) : List S25 × Bool:=if k < 0 ∨ (l.length : Int) ≤ k then ([],false) else lastS l k.toNat
def LastPost (w : World) (l : List S25) (k : Int) (e : Ending) (w' : World) : Prop :=
 ∃ D d,e = .returned (.tuple #[.slice D (lastP l k).1.length d,.bool (lastP l k).2]) ∧ Kd.C k25 w' D (lastP l k).1.length (lastP l k).1 ∧ (lastP l k).1.length ≤ d ∧ Below w.heap.size w w'
theorem lastP_out {l : List S25} {k : Int} (h : k < 0 ∨ (l.length : Int) ≤ k) : lastP l k = ([],false):=if_pos h
theorem lastP_in {l : List S25} {i : Nat} (h : i < l.length) : lastP l (i : Int) = lastS l i:=by
 unfold lastP
 rw [if_neg (by omega),Int.toNat_natCast]
theorem lastS_no {l : List S25} {i : Nat} (h : i < l.length) (hp : pastS l[i] (l.drop (i + 1)) = none) : lastS l i = ([],false):=by
 unfold lastS
 rw [List.getElem?_eq_getElem h]
 simp only [hp]
theorem lastS_yes {l : List S25} {i : Nat} (h : i < l.length) {ys : List S25} {r : S25} (hp : pastS l[i] (l.drop (i + 1)) = some (ys,r)) : lastS l i = (l.take i ++ (ys ++ [r]),true):=by
 unfold lastS
 rw [List.getElem?_eq_getElem h]
 simp only [hp]
theorem pastE_len : ∀ (a : List S25) (p : S25) (y : List S25) (r : S25),pastS p a = some (y,r) → y.length = a.length
 | [],p,y,r,h => by
  cases h
  rfl
 | x :: a,p,y,r,h => by
  rw [pastS] at h
  obtain ⟨a',b,is⟩ : ∃ a' b,comm p x = (a',b):=⟨_,_,rfl⟩
  rw [is] at h
  dsimp only at h
  split at h
  ·cases hb : pastS b.1 a with
   | none => rw [hb] at h; cases h
   | some z =>
    rw [hb] at h
    cases h
    rw [List.length_cons,List.length_cons,pastE_len a _ _ _ hb]
  ·cases h
theorem ret40 {tmps : Array Value} {W : World} {v r : Value} (h4 : tmps[4]? = some v) (h5 : tmps[5]? = some r) : (results Tryz.f49 tmps).run Tryz.prog W = .ok (.tuple #[v,r]) W:=by
 simp [results,Tryz.results49,go_sem, *]
set_option maxHeartbeats 16000000 in
set_option maxRecDepth 100000 in
theorem last_at (l : List S25) (k : Int) (A : Option Addr) (c : Nat) (w : World) (hl : ∀ x ∈ l,Okp x) (hn : l.length ≤ 1000) (gl : Kd.C k25 w A l.length l) (hlc : l.length ≤ c) :
  Calls Tryz.prog 49 #[.slice A l.length c,.int .i64 k] w (LastPost w l k):=by
 by_cases h : k < 0 ∨ (l.length : Int) ≤ k
 ·have hz:=Aside0.mk (lastP_out h)
  clear gl
  rcases Int.lt_or_le k 0 with h0 | h0
  ·have c1 : decide (k < 0) = true:=decide_eq_true h0
   clear h
   go_enter Tryz.func49,Tryz.ntmps49
   go_wp2
   refine bodyPost_ret (ret40 rfl rfl) rfl ?_
   exact ⟨none,0,by rw [hz.out]; rfl,by rw [hz.out]; exact Kd.C_nil _ _,by rw [hz.out]; exact Nat.le_refl _,Below.refl _ _⟩
  ·have h1 : (l.length : Int) ≤ k:=by omega
   have c1 : decide (k < 0) = false:=decide_eq_false (by omega)
   have c2 : decide (k ≥ (l.length : Int)) = true:=decide_eq_true h1
   clear h
   go_enter Tryz.func49,Tryz.ntmps49
   go_wp2
   refine bodyPost_ret (ret40 rfl rfl) rfl ?_
   exact ⟨none,0,by rw [hz.out]; rfl,by rw [hz.out]; exact Kd.C_nil _ _,by rw [hz.out]; exact Nat.le_refl _,Below.refl _ _⟩
 obtain ⟨i,rfl⟩ : ∃ i : Nat,k = (i : Int):=⟨k.toNat,by omega⟩
 have hi : i < l.length:=by omega
 have c1 : decide ((i : Int) < 0) = false:=decide_eq_false (by omega)
 have c2 : decide ((i : Int) ≥ (l.length : Int)) = false:=decide_eq_false (by omega)
 clear h
 obtain ⟨ad,X5,x5,X6,x6,eA,y0,y1,y2,y3,y4,y5,y6,l5,g5,l6,g6⟩:=at_T25 gl (i : Int) (by omega) (by omega)
 obtain ⟨x,hx⟩ : ∃ x,rd_T25 l (i : Int) = x:=⟨_,rfl⟩
 rw [hx] at y0 y1 y2 y3 y4 y5 y6 l5 g5 l6 g6
 have hxm : x = l[i]:=by rw [← hx,rd_T24_get l hi]
 have rx : Rd w x X5 x5 X6 x6:=⟨g5,l5,g6,l6⟩
 have hox : Okp x:=by rw [hxm]; exact hl _ (List.getElem_mem hi)
 simp only [Int.toNat_natCast] at y0 y1 y2 y3 y4 y5 y6
 clear l5 g5 l6 g6 hx
 subst eA
 have i0 : (0 : Int) ≤ (i : Int):=by omega
 have i1 : (i : Int) < (l.length : Int):=by omega
 have hw1 : IntKind.i64.wrap ((i : Int) + 1) = (i : Int) + 1:=wrap_small _ (by omega) (by omega)
 obtain ⟨i0',hi',hz0,hz1,hz2⟩:=info_parts infoR
 have hcf:=cut_from 34 25 .i64 Tryz.underlying34 hi' 7 hz1 (some ad) l.length c ((i : Int) + 1) (by omega) (by omega)
 rw [show ((i : Int) + 1).toNat = i + 1 by omega] at hcf
 have hct:=cut_to 34 25 .i64 Tryz.underlying34 hi' (some ad) l.length c (i : Int) (by omega) (by omega) hlc
 rw [Int.toNat_natCast] at hct
 have gd:=Kd.C_drop (m:=i + 1) gl (by omega) hlc
 have gt:=Kd.C_take (m:=i) gl (by omega)
 obtain ⟨A2,hA2⟩ : ∃ A2,A2 = (if c = i + 1 then some ad else (some ad : Option Addr).map (·.add ((i + 1) * 7))):=⟨_,rfl⟩
 have hsz : k25.sz = 7:=rfl
 rw [hsz,← hA2] at gd
 rw [← hA2] at hcf
 obtain ⟨l2,hl2⟩ : ∃ l2,l2 = l.drop (i + 1):=⟨_,rfl⟩
 have hdl : l.length - (i + 1) = l2.length:=by rw [hl2,List.length_drop]
 rw [hdl] at hcf
 rw [← hl2] at gd
 obtain ⟨tt,htt⟩ : ∃ tt,tt = past x l2:=⟨_,rfl⟩
 have hpast : Aside0 (∀ W,Below w.heap.size w W → Calls Tryz.prog 43 #[.agg #[.int .i64 x.f0,.string x.f1,.string x.f2,.string x.f3,.int .i64 x.f4,.slice X5 x.f5.length x5,.slice X6 x.f6.length x6],.slice A2 l2.length (c - (i + 1))] W (fun e w' => ∃ v C5 e5 C6 e6,e = .returned (.tuple #[v,.agg (cs tt.2.1 C5 e5 C6 e6),.bool tt.2.2]) ∧ OwnRow (RwP w) 25 7 w' W.heap.size v tt.1 ∧ Rd w tt.2.1 C5 e5 C6 e6 ∧ Below W.heap.size W w')):=⟨fun W hW => by rw [htt]; exact past_row w x l2 X5 x5 X6 x6 A2 _ W hW hox (fun y hy => hl y (by rw [hl2] at hy; exact List.mem_of_mem_drop hy)) (by omega) rx (rowsP_rw gd hW)⟩
 replace y0:=Aside0.mk y0
 replace y1:=Aside0.mk y1
 replace y2:=Aside0.mk y2
 replace y3:=Aside0.mk y3
 replace y4:=Aside0.mk y4
 replace y5:=Aside0.mk y5
 replace y6:=Aside0.mk y6
 have hxa:=Aside0.mk hxm
 have hla:=Aside0.mk hl2
 have hta:=Aside0.mk htt
 have hdr:=Aside0.mk hdl
 have rxa:=Aside0.mk rx
 have gta:=Aside0.mk gt
 have gla:=Aside0.mk gl
 have ila:=Aside0.mk hi
 clear hxm hl2 htt hdl rx gd gt gl hA2 hox hsz
 go_enter Tryz.func49,Tryz.ntmps49
 go_upto_region 3 with (fail)
 go_cut [6,7,8] from 9 to 39 (fun v6 v7 v8 w' => ∃ g C5 e5 C6 e6,v7 = .pointer (some ⟨g,0,none⟩) ∧ v8 = .bool tt.2.2 ∧ Aside0 (PB w w tt (cs tt.2.1 C5 e5 C6 e6) g v6 C5 e5 C6 e6 w'))
 case first =>
  refine wp_region_held_drew (S:=fun W => Below w.heap.size w W) (by kernel_rfl) (below_drew (Below.refl _ _)) (fun _ => ?_)
  apply cutP (S:=PB w w tt zeroC)
  intro t0
  ·have hS : Below w.heap.size w (World.drew w):=below_drew (Below.refl _ _)
   generalize World.drew w = W at hS ⊢
   refine' tkE 0 18 hS ?_ ?_; rotate_left
   ·intro W' hSW; go_simp; (try with_reducible rfl)
   refine' tkE 1 19 hS ?_ ?_; rotate_left
   ·intro W' hSW; go_simp; (try with_reducible rfl)
   refine' tkE 2 20 hS ?_ ?_; rotate_left
   ·intro W' hSW; go_simp; (try with_reducible rfl)
   refine' tkE 3 21 hS ?_ ?_; rotate_left
   ·intro W' hSW; have q0:=pw_cell_below hSW y0.out; have q1:=pw_cell_below hSW y1.out; have q2:=pw_cell_below hSW y2.out; have q3:=pw_cell_below hSW y3.out; have q4:=pw_cell_below hSW y4.out; have q5:=pw_cell_below hSW y5.out; have q6:=pw_cell_below hSW y6.out; go_simp; (try with_reducible rfl)
   refine' tkE 4 22 hS ?_ ?_; rotate_left
   ·intro W' hSW; go_simp; (try with_reducible rfl)
   refine' tkE 5 23 hS ?_ ?_; rotate_left
   ·intro W' hSW; go_simp; (try with_reducible rfl)
   refine' tkE 6 24 hS ?_ ?_; rotate_left
   ·intro W' hSW; go_simp; (try with_reducible rfl)
   refine' tkE 7 25 hS ?_ ?_; rotate_left
   ·intro W' hSW; go_simp; (try with_reducible rfl)
   simp only [Act.put,List.setIfInBounds_toArray,List.set_cons_zero,List.set_cons_succ]
   refine wpAnyH_ready (rs:=[8,13]) (by kernel_rfl) (by simp) (AllReadyH.cons rfl (fun K hK => ?_) (AllReadyH.cons rfl (fun K hK => ?_) AllReadyH.nil))
   ·go_simp
    refine (hpast.out _ hS).mono ?_
    rintro e W ⟨v,C5,e5,C6,e6,rfl,hrow,hrd,hb⟩
    replace hrow:=hrow.lower hS.size
    replace hS:=hS.trans (hb.mono hS.size)
    refine hK.out _ _ hS (fun _ => ?_)
    clear hK K
    refine' tkE 9 17 hS ?_ ?_; rotate_left
    ·intro W' hSW; go_simp; (try with_reducible rfl)
    refine' tkE 10 27 hS ?_ ?_; rotate_left
    ·intro W' hSW; go_simp; (try with_reducible rfl)
    refine' tkE 11 28 hS ?_ ?_; rotate_left
    ·intro W' hSW; go_simp; (try with_reducible rfl)
    refine' tkE 12 29 hS ?_ ?_; rotate_left
    ·intro W' hSW; go_simp; (try with_reducible rfl)
    simp only [Act.put,List.setIfInBounds_toArray,List.set_cons_zero,List.set_cons_succ]
    refine wpAnyH_ready (rs:=[13]) (by kernel_rfl) (by simp) (AllReadyH.cons rfl (fun K hK => ?_) AllReadyH.nil)
    go_simp
    have hP : PB w w tt zeroC W.heap.size v C5 e5 C6 e6 (W.alloc (.cells zeroC 25)):=⟨hS.alloc hS.size _,hS.size,blk_new _ _,hrow.below (below_alloc (Below.refl _ _) _),ne_new hrow (Nat.le_refl _),hrd⟩
    replace hS:=hS.alloc hS.size (.cells zeroC 25)
    refine hK.out _ _ hS (fun _ => ?_)
    clear hK K
    generalize W.heap.size = g at hP ⊢
    generalize W.alloc (.cells zeroC 25) = W at hP hS ⊢
    refine' tkE 14 6 hS ?_ ?_; rotate_left
    ·intro W' hSW; go_simp; (try with_reducible rfl)
    simp only [Act.put,List.setIfInBounds_toArray,List.set_cons_zero,List.set_cons_succ]
    exact wpAnyH_at (l':=#[true,true,true,true,true,true,true,true,true,true,true,true,true,true,true,false,false]) (by kernel_rfl) (t0 g v C5 e5 C6 e6 _ hP)
   ·go_simp
    have hbx : w.heap.size ≤ W.heap.size ∧ (W.alloc (.cells zeroC 25)).heap[W.heap.size]? = some (.cells zeroC 25 (0,0)):=⟨hS.size,blk_new _ _⟩
    replace hS:=hS.alloc hS.size (.cells zeroC 25)
    refine hK.out _ _ hS (fun _ => ?_)
    clear hK K
    generalize W.heap.size = g at hbx ⊢
    generalize W.alloc (.cells zeroC 25) = W at hbx hS ⊢
    refine wpAnyH_ready (rs:=[8]) (by kernel_rfl) (by simp) (AllReadyH.cons rfl (fun K hK => ?_) AllReadyH.nil)
    go_simp
    refine (hpast.out _ hS).mono ?_
    rintro e W ⟨v,C5,e5,C6,e6,rfl,hrow,hrd,hb⟩
    have hP : PB w w tt zeroC g v C5 e5 C6 e6 _:=⟨hS.trans (hb.mono hS.size),hbx.1,blk_below hbx.2 hb,hrow.lower hS.size,ne_base hrow (blk_lt hbx.2),hrd⟩
    replace hS:=hS.trans (hb.mono hS.size)
    refine hK.out _ _ hS (fun _ => ?_)
    clear hK K
    refine' tkE 9 17 hS ?_ ?_; rotate_left
    ·intro W' hSW; go_simp; (try with_reducible rfl)
    refine' tkE 10 27 hS ?_ ?_; rotate_left
    ·intro W' hSW; go_simp; (try with_reducible rfl)
    refine' tkE 11 28 hS ?_ ?_; rotate_left
    ·intro W' hSW; go_simp; (try with_reducible rfl)
    refine' tkE 12 29 hS ?_ ?_; rotate_left
    ·intro W' hSW; go_simp; (try with_reducible rfl)
    refine' tkE 14 6 hS ?_ ?_; rotate_left
    ·intro W' hSW; go_simp; (try with_reducible rfl)
    simp only [Act.put,List.setIfInBounds_toArray,List.set_cons_zero,List.set_cons_succ]
    exact wpAnyH_at (l':=#[true,true,true,true,true,true,true,true,true,true,true,true,true,true,true,false,false]) (by kernel_rfl) (t0 g v C5 e5 C6 e6 _ hP)
  ·intro g v C5 e5 C6 e6 W hP
   have hS:=hP.below
   obtain ⟨k0,k1,k2,k3,k4,k5,k6⟩:=cells7 hP.box
   obtain ⟨f0,f1,f2,f3,f4,f5,f6⟩:=frozen7 hP.box
   refine wpAnyH_ready (rs:=[15]) (by kernel_rfl) (by simp) (AllReadyH.cons rfl (fun K hK => ?_) AllReadyH.nil)
   go_simp
   replace hP:=hP.set rfl (.int .i64 tt.2.1.f0) (.string tt.2.1.f1) (.string tt.2.1.f2) (.string tt.2.1.f3) (.int .i64 tt.2.1.f4) (.slice C5 tt.2.1.f5.length e5) (.slice C6 tt.2.1.f6.length e6)
   replace hS:=hP.below
   clear k0 f0 k1 f1 k2 f2 k3 f3 k4 f4 k5 f5 k6 f6
   refine hK.out _ _ hS (fun _ => ?_)
   clear hK K
   refine' tkE 16 8 hS ?_ ?_; rotate_left
   ·intro W' hSW; go_simp; (try with_reducible rfl)
   simp only [Act.put,List.setIfInBounds_toArray,List.set_cons_zero,List.set_cons_succ]
   refine wpAnyH_done (by kernel_rfl) ?_ _
   go_wp2
   go_meet
   case rel => exact ⟨_,_,_,_,_,rfl,rfl,⟨hP⟩⟩
 case rest =>
  obtain ⟨g,C5,e5,C6,e6,rfl,rfl,hP⟩:=hcut
  clear hpast hcf c1 c2 y0 y1 y2 y3 y4 y5 y6
  cases hps : pastS x l2 with
  | none =>
   have e1 : tt = ([],z25,false):=by rw [hta.out,past_no hps]
   have hz : Aside0 (lastP l (i : Int) = ([],false)):=⟨by rw [lastP_in ila.out]; exact lastS_no ila.out (by rw [← hxa.out,← hla.out]; exact hps)⟩
   have hbz:=Aside0.mk hP.out.below
   rw [e1]
   clear e1 hps hP
   go_wp2
   refine bodyPost_ret (ret40 rfl rfl) rfl ?_
   exact ⟨none,0,by rw [hz.out]; rfl,by rw [hz.out]; exact Kd.C_nil _ _,by rw [hz.out]; exact Nat.le_refl _,hbz.out⟩
  | some yr =>
   obtain ⟨ys,r⟩:=yr
   have e1 : tt = (ys,r,true):=by rw [hta.out,past_yes hps]
   have hyl : ys.length = l2.length:=pastE_len _ _ _ _ hps
   have hz : Aside0 (lastP l (i : Int) = (l.take i ++ (ys ++ [r]),true)):=⟨by rw [lastP_in ila.out]; exact lastS_yes ila.out (by rw [← hxa.out,← hla.out]; exact hps)⟩
   rw [e1] at hP ⊢
   have hbz:=Aside0.mk hP.out.below
   have xr:=hP.out.box
   obtain ⟨D,d,rfl,hd,gy⟩:=hP.out.row.reads
   have rr:=Aside0.mk hP.out.rd
   replace gy:=Aside0.mk gy
   replace hyl:=Aside0.mk hyl
   have hge:=Aside0.mk hP.out.ge
   clear e1 hps hP
   have hlt : (l.take i).length = i:=by rw [List.length_take]; have:=ila.out; omega
   rw [hlt] at gta
   replace hlt:=Aside0.mk hlt
   obtain ⟨L,hL⟩ : ∃ L,L = l.take i ++ (ys ++ [r]):=⟨_,rfl⟩
   rw [← hL] at hz
   replace hL:=Aside0.mk hL
   go_upto_region 6 with (fail)
   go_cut [4,5] from 9 to 39 (fun v4 v5 w' => ∃ D' d',v4 = .slice D' L.length d' ∧ v5 = .bool true ∧ Aside0 (Kd.C k25 w' D' L.length L) ∧ Aside0 (L.length ≤ d') ∧ Aside0 (Below wc.heap.size wc w'))
   case first =>
    refine wp_region_held_drew (S:=fun W => Below wc.heap.size wc W) (by kernel_rfl) (below_drew (Below.refl _ _)) (fun _ => ?_)
    have hS : Below wc.heap.size wc (World.drew wc):=below_drew (Below.refl _ _)
    generalize World.drew wc = W at hS ⊢
    refine' tkE 0 32 hS ?_ ?_; rotate_left
    ·intro W' hSW; go_simp; (try with_reducible rfl)
    refine' tkE 1 33 hS ?_ ?_; rotate_left
    ·intro W' hSW; go_simp; (try with_reducible rfl)
    refine' tkE 2 34 hS ?_ ?_; rotate_left
    ·intro W' hSW; go_simp; (try with_reducible rfl)
    refine' tkE 3 35 hS ?_ ?_; rotate_left
    ·intro W' hSW; go_simp; (try with_reducible rfl)
    refine' tkE 4 36 hS ?_ ?_; rotate_left
    ·intro W' hSW; obtain ⟨k0,k1,k2,k3,k4,k5,k6⟩:=cells7 (blk_below xr hSW); go_simp; (try with_reducible rfl)
    simp only [Act.put,List.setIfInBounds_toArray,List.set_cons_zero,List.set_cons_succ]
    refine wpAnyH_ready (rs:=[5]) (by kernel_rfl) (by simp) (AllReadyH.cons rfl (fun K hK => ?_) AllReadyH.nil)
    go_simp
    have x1:=blk_new W (.cells #[.int .i64 r.f0,.string r.f1,.string r.f2,.string r.f3,.int .i64 r.f4,.slice C5 r.f5.length e5,.slice C6 r.f6.length e6] 25)
    replace hS:=hS.alloc hS.size (.cells #[.int .i64 r.f0,.string r.f1,.string r.f2,.string r.f3,.int .i64 r.f4,.slice C5 r.f5.length e5,.slice C6 r.f6.length e6] 25)
    refine hK.out _ _ hS (fun _ => ?_)
    clear hK K
    generalize W.heap.size = g1 at x1 ⊢
    generalize W.alloc (.cells #[.int .i64 r.f0,.string r.f1,.string r.f2,.string r.f3,.int .i64 r.f4,.slice C5 r.f5.length e5,.slice C6 r.f6.length e6] 25) = W at x1 hS ⊢
    refine wpAnyH_ready (rs:=[6]) (by kernel_rfl) (by simp) (AllReadyH.cons rfl (fun K hK => ?_) AllReadyH.nil)
    go_simp
    have hS2:=hS.alloc hS.size (.cells #[.slice (some ad) i c,.slice D ys.length d,.slice (some ⟨g1,0,none⟩) 1 1] 34)
    have x2:=blk_new W (.cells #[.slice (some ad) i c,.slice D ys.length d,.slice (some ⟨g1,0,none⟩) 1 1] 34)
    have x3:=blk_alloc x1 (.cells #[.slice (some ad) i c,.slice D ys.length d,.slice (some ⟨g1,0,none⟩) 1 1] 34)
    replace hS:=hS2
    refine hK.out _ _ hS (fun _ => ?_)
    clear hK K
    generalize W.heap.size = g2 at x2 ⊢
    generalize W.alloc (.cells #[.slice (some ad) i c,.slice D ys.length d,.slice (some ⟨g1,0,none⟩) 1 1] 34) = W at x2 x3 hS hS2 ⊢
    refine wpAnyH_ready (rs:=[7]) (by kernel_rfl) (by simp) (AllReadyH.cons rfl (fun K hK => ?_) AllReadyH.nil)
    go_simp
    have hBW : Below w.heap.size w W:=hbz.out.trans (hS.mono hbz.out.size)
    have k1 : ReadsRow (RwP W) 7 W (some ad) (l.take i).length (l.take i):=rowsP_rw (Kd.C_below (by rw [hlt.out]; exact gta.out) hBW) (Below.refl _ _)
    have k2 : ReadsRow (RwP W) 7 W D ys.length ys:=ReadsRow.imp_ gy.out hS (fun _ _ hq => rw_up hBW hq)
    have k3 : ReadsRow (RwP W) 7 W (some ⟨g1,0,none⟩) [r].length [r]:=⟨rfl,by simp,fun _ => ⟨_,rfl,fun j p hj => by
     obtain rfl : j = 0:=by have:=(List.getElem?_eq_some_iff.1 hj).1; simpa using this
     obtain rfl : r = p:=by simpa using hj
     exact ⟨[.int .i64 r.f0,.string r.f1,.string r.f2,.string r.f3,.int .i64 r.f4,.slice C5 r.f5.length e5,.slice C6 r.f6.length e6],rfl,⟨_,_,_,_,rfl,rr.out.below hBW⟩,fun j u hu => by
      rw [show ((⟨g1,0,none⟩ : Addr).add (0 * 7 + j)) = ⟨g1,j,none⟩ from by unfold Addr.add; split <;> simp_all]
      exact (blk_cell x3 j).trans (by simpa using hu)⟩⟩⟩
    refine (concat_at [(some ad,c,l.take i),(D,d,ys),(some ⟨g1,0,none⟩,1,[r])] g2 3 W ?q1 ?q2 ?q3 (by simp)).mono ?_
    case q1 => intro j q hj; match j,hj with | 0,hj => (cases hj; rw [hlt.out]; exact (blk_cell x2 0).trans rfl) | 1,hj => (cases hj; exact (blk_cell x2 1).trans rfl) | 2,hj => (cases hj; exact (blk_cell x2 2).trans rfl) | n + 3,hj => simp at hj
    case q2 => intro q hq; simp only [List.mem_cons,List.not_mem_nil,or_false] at hq; rcases hq with rfl | rfl | rfl <;> first | exact k1 | exact k2 | exact k3
    case q3 => unfold flatP; simp; have:=hyl.out; have:=hdr.out; have:=ila.out; have:=hlt.out; omega
    rintro e W2 ⟨v4,rfl,hv,hb⟩
    have hfl : flatP [(some ad,c,l.take i),(D,d,ys),(some ⟨g1,0,none⟩,1,[r])] = L:=by rw [hL.out]; simp [flatP]
    rw [hfl] at hv
    obtain ⟨D4,d4,rfl,hd4,gC⟩:=rowP_C hv hb
    clear k1 k2 k3 hfl hv
    replace hS:=hS.trans (hb.mono hS.size)
    clear hb
    refine hK.out _ _ hS (fun _ => ?_)
    clear hK K
    refine' tkE 8 4 hS ?_ ?_; rotate_left
    ·intro W' hSW; go_simp; (try with_reducible rfl)
    refine' tkE 9 5 hS ?_ ?_; rotate_left
    ·intro W' hSW; go_simp; (try with_reducible rfl)
    simp only [Act.put,List.setIfInBounds_toArray,List.set_cons_zero,List.set_cons_succ]
    refine wpAnyH_done (by kernel_rfl) ?_ _
    go_wp2
    go_meet
    case rel => exact ⟨_,_,rfl,rfl,⟨gC⟩,⟨hd4⟩,⟨hS⟩⟩
   case rest =>
    obtain ⟨D',d',rfl,rfl,gC,hd',hb⟩:=hcut
    go_wp2
    refine bodyPost_ret (ret40 rfl rfl) rfl ?_
    exact ⟨D',d',by rw [hz.out]; rfl,by rw [hz.out]; exact gC.out,by rw [hz.out]; exact hd'.out,hbz.out.trans (hb.out.mono hbz.out.size)⟩
end Go.Proofs.YthhohbidjhcjeaaGreatDoor.H
namespace Go.Proofs
open Go.Shelf
def Tryz.revP_ren : Go.Shelf.Ren:=⟨fun | 35 => 85 | n => n,fun | 22 => 34 | 23 => 25 | 3 => 3 | 4 => 4 | 0 => 0 | n => n,fun | n => n⟩
theorem Tryz.revP : Go.Proofs.SlLaysE0.n35 Tryz.prog Tryz.revP_ren:={
 mixed:=by kernel_rfl
 f35:=⟨Tryz.f85.name,by decide,Tryz.func85.trans (congrArg some (by kernel_rfl))⟩
 t0:=Tryz.underlying0
 a0:=Tryz.isAgg0
 z0:=Tryz.sizeOf0
 v0:=Tryz.zeroValue0
 t3:=Tryz.underlying3
 a3:=Tryz.isAgg3
 z3:=Tryz.sizeOf3
 v3:=Tryz.zeroValue3
 t4:=Tryz.underlying4
 a4:=Tryz.isAgg4
 z4:=Tryz.sizeOf4
 v4:=Tryz.zeroValue4
 t22:=Tryz.underlying34
 a22:=Tryz.isAgg34
 z22:=Tryz.sizeOf34
 v22:=Tryz.zeroValue34 }
end Go.Proofs
namespace Go.Proofs.YthhohbidjhcjeaaGreatDoor.H
open Go.RowKit Go.Sort Go.Proofs.YthhohbidjhcjeaaGreatDoorW.PrintWords Go.Proofs.YthhohbidjhcjeaaGreatDoorW.PrintLast Go.Proofs.YthhohbidjhcjeaaGreatDoorW.PrintMore
open Go.Proofs.YthhohbidjhcjeaaGreatDoor.Q Go.Proofs.YthhohbidjhcjeaaGreatDoor.Pl
set_option linter.unusedVariables false
abbrev C7:={ c : List Value // c.length = 7 ∧ ∀ v ∈ c,v.oneCell' = true }
instance : Inhabited C7:=⟨⟨List.replicate 7 (.int .i64 0),by simp,by intro v hv; rw [List.eq_of_mem_replicate hv]; rfl⟩⟩
def enc7 (c : C7) : List Value:=c.1
theorem chunk7 {cs : List Value} {n j : Nat} (hl : cs.length = n * 7) (hj : j < n) : ((cs.drop (j * 7)).take 7).length = 7:=by
 rw [List.length_take,List.length_drop]
 omega
def chunkC (cs : List Value) (n : Nat) (hl : cs.length = n * 7) (h1 : ∀ v ∈ cs,v.oneCell' = true) (j : Fin n) : C7 :=
 ⟨(cs.drop (j.1 * 7)).take 7,chunk7 hl j.2,fun v hv => h1 v (List.mem_of_mem_drop (List.mem_of_mem_take hv))⟩
theorem flat_chunks (cs : List Value) (n : Nat) (hl : cs.length = n * 7) (h1 : ∀ v ∈ cs,v.oneCell' = true) : flatK enc7 7 (Array.ofFn (chunkC cs n hl h1)) = cs.toArray:=by
 refine ext_get! (by simp [hl]) fun t ht => ?_
 have ht' : t < n * 7:=by simpa using ht
 have hq : t / 7 < n:=by omega
 rw [get_flatK _ _ _ t (by simpa using ht')]
 have hd : (Array.ofFn (chunkC cs n hl h1))[t / 7]! = chunkC cs n hl h1 ⟨t / 7,hq⟩:=by
  rw [getElem!_pos _ _ (by simpa using hq),Array.getElem_ofFn]
 rw [hd]
 have hm : t % 7 < 7:=Nat.mod_lt _ (by omega)
 have hlen:=chunk7 hl hq
 show ((cs.drop (t / 7 * 7)).take 7)[t % 7]! = _
 rw [getElem!_pos _ _ (by rw [hlen]; exact hm),List.getElem_take,List.getElem_drop,getElem!_pos _ _ (by simpa [hl] using ht')]
 simp only [List.getElem_toArray]
 congr 1
 omega
theorem chunk_flat (d : Array C7) (j : Nat) (hj : j < d.size) : ((flatK enc7 7 d).toList.drop (j * 7)).take 7 = enc7 d[j]!:=by
 have hlen : (enc7 d[j]!).length = 7:=(d[j]!).2.1
 have hsz : (flatK enc7 7 d).toList.length = d.size * 7:=by simp
 refine List.ext_getElem (by rw [List.length_take,List.length_drop,hsz,hlen]; omega) fun t h1 h2 => ?_
 have ht : t < 7:=by omega
 rw [List.getElem_take,List.getElem_drop,Array.getElem_toList]
 have h3 : j * 7 + t < d.size * 7:=by omega
 have h4:=get_flatK enc7 7 d (j * 7 + t) h3
 rw [getElem!_pos _ _ (by simpa using h3)] at h4
 rw [h4,show (j * 7 + t) / 7 = j by omega,show (j * 7 + t) % 7 = t by omega,getElem!_pos _ _ (by omega)]
theorem holds_id {w : World} {g : Nat} {cur : Array Value} {e : TypeId} {cs : List Value} (hb : w.heap[g]? = some (.cells cur e (0,0))) (ht : cur.toList.take cs.length = cs) : Holds id w g 0 cs.toArray:=by
 intro j hj
 have hj' : j < cs.length:=by simpa using hj
 refine ⟨?_,by simp [World.frozen?,hb]⟩
 have h1 : (cur.toList.take cs.length)[j]? = cs[j]?:=by rw [ht]
 rw [List.getElem?_take_of_lt hj'] at h1
 simp only [World.cell?,hb,Nat.zero_add]
 simp only [Option.isSome_none,Bool.false_eq_true,if_false]
 rw [← Array.getElem?_toList,h1]
 simp [hj']
theorem heap_put {w : World} {g n : Nat} {cur : Array Value} {e : TypeId} {fr : Nat × Nat} (F : Array Value) (hb : w.heap[g]? = some (.cells cur e fr)) :
  (putRow id (Sort.ahead w n) g 0 F).heap[g]? = some (.cells (putCells id 0 F cur) e fr):=by
 simp [putRow,mapBlock,Sort.ahead,Array.getElem?_modify,hb,onCells]
theorem grownBy_put {w : World} {g n : Nat} (F : Array Value) : w.grownBy (putRow id (Sort.ahead w n) g 0 F) (some g):=by
 refine ⟨rfl,rfl,rfl,by simp [putRow,mapBlock,Sort.ahead],fun k hk hne => ?_⟩
 have : g ≠ k:=fun e => hne (by rw [e])
 simp [putRow,mapBlock,Sort.ahead,Array.getElem?_modify,this]
theorem take_put (cur : Array Value) (ts : List Value) (h : ts.length ≤ cur.size) : (putCells id 0 ts.toArray cur).toList.take ts.length = ts:=by
 apply List.ext_getElem?
 intro j
 by_cases hj : j < ts.length
 ·rw [List.getElem?_take_of_lt hj,Array.getElem?_toList]
  simp [putCells,hj,show j < cur.size by omega]
 ·rw [List.getElem?_take_eq_none (by omega),List.getElem?_eq_none (by omega)]
theorem reverse_at (w : World) (xs : List S25) (W : World) (base : Nat) (v : Value) (h : OwnRow (RwP w) 25 7 W base v xs) :
  Calls Tryz.prog 85 #[v] W fun e W' => e = .returned (.tuple #[]) ∧ OwnRow (RwP w) 25 7 W' base v xs.reverse ∧ W.grownBy W' v.ownBlock:=by
 obtain ⟨inner,ho,hr⟩:=h
 have hlen:=hr.1
 have h1:=repsP_one hr
 rcases ho.2 with ⟨rfl,hn⟩ | ⟨g,cap,cur,rfl,hbase,hb,hnc,hcm,hcs,htk⟩
 ·have hx : xs = []:=List.eq_nil_of_length_eq_zero hn
  subst hx
  refine (AnyQ.slices_Reverse_empty Tryz.revP none 0 W).mono ?_
  rintro e W' ⟨rfl,rfl⟩
  exact ⟨rfl,⟨inner,ho,hr⟩,⟨rfl,rfl,rfl,Nat.le_refl _,fun _ _ _ => rfl⟩⟩
 ·have hF:=flat_chunks inner xs.length hlen h1
  have hH : HoldsK enc7 7 W g 0 (Array.ofFn (chunkC inner xs.length hlen h1)):=by
   show Holds id W g 0 _
   rw [hF]
   refine holds_id hb ?_
   rw [hlen]
   exact htk
  have hm : xs.length ≤ 9223372036854775807:=by simp only [maxLen] at hcm; omega
  have hc:=AnyQ.slices_Reverse Tryz.revP 7 Tryz.isAgg25 Tryz.sizeOf25 enc7 (fun x => x.2.1) (fun x v hv => x.2.2 v hv) g 0 cap (Array.ofFn (chunkC inner xs.length hlen h1)) W hH (by simpa using hm)
  rw [Array.size_ofFn] at hc
  refine hc.mono ?_
  rintro e W' ⟨rfl,n,rfl⟩
  obtain ⟨ts,hts⟩ : ∃ ts : List Value,ts = (flatK enc7 7 (Array.ofFn (chunkC inner xs.length hlen h1)).reverse).toList:=⟨_,rfl⟩
  have htl : ts.length = xs.length * 7:=by rw [hts]; simp
  have hta : flatK enc7 7 (Array.ofFn (chunkC inner xs.length hlen h1)).reverse = ts.toArray:=by rw [hts]
  refine ⟨rfl,⟨ts,?_,?_⟩,?_⟩
  ·rw [List.length_reverse]
   refine ⟨htl,.inr ⟨g,cap,putCells id 0 ts.toArray cur,rfl,hbase,?_,hnc,hcm,by simp [putCells,hcs],?_⟩⟩
   ·show (putRow id (Sort.ahead W n) g 0 _).heap[g]? = _
    rw [hta]
    exact heap_put _ hb
   ·rw [← htl]
    exact take_put cur ts (by rw [htl,hcs]; exact Nat.mul_le_mul_right _ hnc)
  ·refine ⟨by rw [htl,List.length_reverse],fun j p hj => ?_⟩
   have hjl : j < xs.length:=by have:=(List.getElem?_eq_some_iff.1 hj).1; simpa using this
   rw [hts,chunk_flat _ j (by simpa using hjl)]
   have hk : xs.length - 1 - j < xs.length:=by omega
   have e1 : (Array.ofFn (chunkC inner xs.length hlen h1)).reverse[j]! = chunkC inner xs.length hlen h1 ⟨xs.length - 1 - j,hk⟩:=by
    rw [getElem!_pos _ _ (by simpa using hjl),Array.getElem_reverse,Array.getElem_ofFn]
    simp
   rw [e1]
   refine hr.2 _ p ?_
   rw [← hj,List.getElem?_reverse hjl]
  ·show W.grownBy (putRow id (Sort.ahead W n) g 0 _) _
   exact grownBy_put _
open Go.RowKit Go.Shelf Go.Proofs.YthhohbidjhcjeaaGreatDoorW.PrintWords Go.Proofs.YthhohbidjhcjeaaGreatDoorW.PrintLast Go.Proofs.YthhohbidjhcjeaaGreatDoorW.PrintMore
set_option linter.unusedSimpArgs false
set_option maxHeartbeats 4000000 in
set_option maxRecDepth 100000 in
theorem clone_row (w : World) (l : List S25) (A : Option Addr) (c : Nat) (W : World) (hB : Below w.heap.size w W) (hn : l.length ≤ 1256584717458) (h : ReadsRow (RwP w) 7 W A l.length l) :
  Calls Tryz.prog 84 #[.slice A l.length c] W fun e W' => ∃ v,e = .returned v ∧ OwnRow (RwP w) 25 7 W' W.heap.size v l ∧ Below W.heap.size W W':=by
 have q25 : ∀ (w : World) (a : Option Addr) (n c n' c' : Nat),(binOp .eql 34 (.slice a n c) (.slice none n' c')).run Tryz.prog w = .ok (.bool a.isNone) w:=fun w a n c n' c' => Go.Lib.run_eql_slice_nil w _ _ a n c n' c' Tryz.underlying34
 cases A with
 | none =>
  have hl : Aside0 (l = []):=⟨List.eq_nil_of_length_eq_zero (by
   rcases Nat.eq_zero_or_pos l.length with h0 | h0
   ·exact h0
   ·obtain ⟨ad,he,_⟩:=h.2.2 h0
    cases he)⟩
  have hB':=Aside0.mk hB
  clear h hB
  go_enter Tryz.func84,Tryz.ntmps84
  go_wp2
  go_ret
  exact ⟨_,rfl,by rw [hl.out]; exact OwnRow.none_ _ _ _ _ _,Below.refl _ _⟩
 | some ad =>
  obtain ⟨inner,hr,hc⟩:=h.inner_
  have hr':=Aside0.mk hr
  have hc':=Aside0.mk hc
  have h1:=Aside0.mk (repsP_one hr)
  have hB':=Aside0.mk hB
  have hsz:=Aside0.mk hB.size
  have hn1 : Aside0 (0 + l.length ≤ maxLen):=⟨by unfold maxLen; omega⟩
  have hn2 : Aside0 ((0 + l.length) * 112 ≤ 140737488355328):=⟨by rw [Nat.zero_add]; exact Nat.le_trans (Nat.mul_le_mul_right 112 hn) (by decide)⟩
  have hl:=Aside0.mk hr.1
  clear h hr hc hB hn
  obtain ⟨i0,hi,hz0,hz1,hz2⟩:=info_parts infoR
  have hi':=Aside0.mk hi
  have hz0':=Aside0.mk hz0
  have hz1':=Aside0.mk hz1
  have hz2':=Aside0.mk hz2
  clear hi hz0 hz1 hz2
  go_enter Tryz.func84,Tryz.ntmps84
  go_wp2_with (at_builtin; refine wpList_append_own_at _ rfl _ _ 34 rfl W.heap.size 25 i0 _ 7 112 Tryz.underlying34 hi'.out hz0'.out hz1'.out hz2'.out rfl (by omega) _ _ _ rfl (World.ownsRow_made W #[] 0 (Nat.le_refl _) (Nat.zero_le _) (by simp)) ad l.length c inner rfl hl.out ?qc2 h1.out hn1.out hn2.out ?qc6 ?_)
  case qc2 =>
   intro j u hj
   exact Lib.cell?_alloc_some _ (hc'.out j u hj)
  case qc6 => simp
  intro v' w1 hown hgrow hnil hblk
  go_wp2
  go_ret
  refine ⟨v',rfl,⟨inner,by simpa using hown,hr'.out⟩,?_⟩
  exact (below_alloc (Below.refl _ W) _).grown hgrow (by simp) (by intro k hk; simp [Value.ownBlock] at hk; omega)
attribute [local go_sem] Oper.semAt_some
abbrev ElZ (Z : S25 → Prop) (w0 : World) (ok : Nat → Prop):={ p : S25 × List Value // Kd.FK k25 w0 ok p.1 p.2 ∧ Z p.1 }
def encZ {Z : S25 → Prop} {w0 : World} {ok : Nat → Prop} (x : Nat × ElZ Z w0 ok) : Array Value:=#[.int .i64 (x.1 : Int),.agg x.2.1.2.toArray]
def KpZ (w0 : World) (Bs : Nat) (W W' : World) : Prop:=Below w0.heap.size W W' ∧ ∀ v,W.cell? ⟨Bs,0,none⟩ = some v → W'.cell? ⟨Bs,0,none⟩ = some v

set_option maxRecDepth 100000 in
set_option maxHeartbeats 2000000 in
theorem back1Z (n : Nat) (hn : 1 ≤ n) (l Bs : Nat) (Z : S25 → Prop) (w0 : World) (ok : Nat → Prop) (A : Option Addr) (cap : Nat) (zs : List S25) (hlen : zs.length * 112 ≤ 140737488355328) (hF : Kd.F k25 w0 ok A zs.length zs) (hZ : ∀ z ∈ zs,Z z)
  (J Jx : List (Nat × ElZ Z w0 ok) → World → Prop)
  (hY : ∀ pre x W,J pre W → pre.length < zs.length → YieldAt Fence.wide (n - 1) Tryz.prog l (encZ x) W fun e W' =>
   (e = .returned (.bool true) ∧ J (pre ++ [x]) W' ∧ KpZ w0 Bs W W') ∨ (e = .returned (.bool false) ∧ Jx (pre ++ [x]) W'))
  (W : World) (hW : Below w0.heap.size w0 W) (hBs : W.cell? ⟨Bs,0,none⟩ = some (.slice A zs.length cap)) (h0 : J [] W) :
  CallsIn Fence.wide n Tryz.prog 118 #[.func (.yield l) #[] #[],.pointer (some ⟨Bs,0,none⟩)] W fun e W' => (∃ v,e = .returned v) ∧
   ((∃ ys : List (Nat × ElZ Z w0 ok),ys.map (fun y => y.2.1.1) = zs.reverse ∧ J ys W') ∨ (∃ pre : List (Nat × ElZ Z w0 ok),pre.map (fun y => y.2.1.1) <+: zs.reverse ∧ Jx pre W')):=by
 refine callsIn_of_wp Tryz.func118 rfl trivial ?_ rfl
 simp only [Tryz.ntmps118,List.size_toArray,List.length_cons,List.length_nil,Nat.reduceAdd,Nat.reduceSub,Array.replicate_succ,Array.replicate_zero,List.push_toArray,List.append_toArray,List.nil_append,List.cons_append]
 have hl63 : zs.length ≤ 9223372036854775807:=by omega
 gi_wp2
 gi_loopw [3] (fun i wr => ∃ (m : Nat) (pre : List (Nat × ElZ Z w0 ok)),m ≤ zs.length ∧ i = .int .i64 ((m : Int) - 1) ∧ J pre wr ∧ pre.length = zs.length - m ∧ pre.map (fun y => y.2.1.1) = zs.reverse.take (zs.length - m) ∧ wr.cell? ⟨Bs,0,none⟩ = some (.slice A zs.length cap) ∧ Below w0.heap.size w0 wr)
  (fun i _ => (intOf i + 1).toNat)
 case atStart => exact ⟨zs.length,[],Nat.le_refl _,rfl,h0,by simp,by simp,hBs,hW⟩
 case round =>
  obtain ⟨m,pre,hm,rfl,hJ,hpl,hpm,hBr,hWr⟩:=hrel
  cases m with
  | zero =>
   gi_wp2
   go_end0
   exact ⟨⟨_,rfl⟩,.inl ⟨pre,by rw [hpm]; exact List.take_of_length_le (by simp),hJ⟩⟩
  | succ j =>
   obtain ⟨ad,c,hA,hcl,hFK,hcc,_⟩:=Kd.F_get hF z25 (j : Int) (by omega) (by omega)
   simp only [Int.toNat_natCast] at hFK hcc
   have hsz : k25.sz = 7:=rfl
   rw [hsz] at hcc
   have hel : zs.reverse.take (zs.length - j) = zs.reverse.take (zs.length - (j + 1)) ++ [zs.getD j z25]:=by
    have e1 : zs.length - j = (zs.length - (j + 1)) + 1:=by omega
    rw [e1,List.take_succ_eq_append_getElem (by simp; omega)]
    congr 1
    rw [List.getElem_reverse]
    rw [List.getD_eq_getElem?_getD,List.getElem?_eq_getElem (by omega),Option.getD_some]
    congr 2
    omega
   have hZx : Z (zs.getD j z25):=by
    rw [List.getD_eq_getElem?_getD,List.getElem?_eq_getElem (by omega),Option.getD_some]
    exact hZ _ (List.getElem_mem _)
   obtain ⟨x,hx⟩ : ∃ x,x = zs.getD j z25:=⟨_,rfl⟩
   rw [← hx] at hel hFK hZx
   have HEL:=Lib.hid hel
   clear hx
   have HPM:=Lib.hid hpm
   have HPL:=Lib.hid hpl
   clear hel hpm hpl hsz
   obtain ⟨fn,tmps,assign,body,hy,hR⟩:=hY pre (j,⟨(x,c),hFK,hZx⟩) wr hJ (by rw [HPL.out]; omega)
   obtain ⟨A5,c5,A6,c6,hce,_⟩:=k25_openF hFK
   dsimp only [encZ] at hy
   rw [hce] at hy hcc
   subst hA
   have q0:=pw_cell_below hWr (hcc 0 _ rfl)
   have q1:=pw_cell_below hWr (hcc 1 _ rfl)
   have q2:=pw_cell_below hWr (hcc 2 _ rfl)
   have q3:=pw_cell_below hWr (hcc 3 _ rfl)
   have q4:=pw_cell_below hWr (hcc 4 _ rfl)
   have q5:=pw_cell_below hWr (hcc 5 _ rfl)
   have q6:=pw_cell_below hWr (hcc 6 _ rfl)
   rw [Nat.add_zero] at q0
   rw [add_field _ _ 1 (by omega)] at q1
   rw [add_field _ _ 2 (by omega)] at q2
   rw [add_field _ _ 3 (by omega)] at q3
   rw [add_field _ _ 4 (by omega)] at q4
   rw [add_field _ _ 5 (by omega)] at q5
   rw [add_field _ _ 6 (by omega)] at q6
   clear hcc hcl
   have HCE:=Lib.hid hce
   clear hce
   have ej : (((j + 1 : Nat) : Int) - 1) = (j : Int):=by omega
   rw [ej]
   clear ej
   gi_wp2
   refine hR.mono ?_
   rintro e W3 (⟨rfl,hJ3,hk3⟩ | ⟨rfl,hJx3⟩)
   ·have hB3:=hk3.2 _ hBr
    gi_wp2
    go_roundw
    case rel => exact ⟨j,pre ++ [(j,⟨(x,c),hFK,hZx⟩)],by omega,rfl,hJ3,by rw [List.length_append,HPL.out]; simp; omega,by rw [List.map_append,HPM.out,HEL.out]; rfl,hB3,hWr.trans hk3.1⟩
    case measure => simp [intOf]
   ·gi_wp2
    refine bodyPost_ret (results_none rfl _ _ _) rfl ?_
    exact ⟨⟨_,rfl⟩,.inr ⟨pre ++ [(j,⟨(x,c),hFK,hZx⟩)],by rw [List.map_append,HPM.out]; exact HEL.out ▸ List.take_prefix _ _,hJx3⟩⟩
set_option maxHeartbeats 1000000 in
theorem back_inZ (n : Nat) (A : Option Addr) (len cap : Nat) (w : World) :
  CallsIn Fence.wide n Tryz.prog 77 #[.slice A len cap] w fun e w' => e = .returned (.func (.func 118) #[] #[.pointer (some ⟨w.heap.size,0,none⟩)]) ∧ w' = w.alloc (.cells #[.slice A len cap] 34):=by
 refine callsIn_of_wp Tryz.func77 rfl trivial ?_ rfl
 simp only [Tryz.ntmps77,List.size_toArray,List.length_cons,List.length_nil,Nat.reduceAdd,Nat.reduceSub,Array.replicate_succ,Array.replicate_zero,List.push_toArray,List.append_toArray,List.nil_append,List.cons_append]
 gi_wp2
 go_ret
 exact ⟨rfl,rfl⟩

theorem back_stopsZ (n : Nat) (hn : 1 ≤ n) (Bs : Nat) (Z : S25 → Prop) (w0 w : World) (ok : Nat → Prop) (A : Option Addr) (cap : Nat) (zs : List S25) (hlen : zs.length * 112 ≤ 140737488355328) (hF : Kd.F k25 w0 ok A zs.length zs) (hZ : ∀ z ∈ zs,Z z)
  (hW : Below w0.heap.size w0 w) (hBs : w.cell? ⟨Bs,0,none⟩ = some (.slice A zs.length cap)) :
  SeqStopsK Fence.wide n Tryz.prog 118 #[.pointer (some ⟨Bs,0,none⟩)] (encZ (Z:=Z) (w0:=w0) (ok:=ok)) (KpZ w0 Bs) (fun ys => ys.map (fun y => y.2.1.1) = zs.reverse) (fun pre => pre.map (fun y => y.2.1.1) <+: zs.reverse) zs.length w :=
 fun l J Jx W hWW _ _ hY h0 => back1Z n hn l Bs Z w0 ok A cap zs hlen hF hZ J Jx hY W (hW.trans (hWW.mono hW.size)) (pw_cell_below hWW hBs) h0

end Go.Proofs.YthhohbidjhcjeaaGreatDoor.H
namespace Go.Proofs.YthhohbidjhcjeaaGreatDoor.H
open Go.RowKit Go.Shelf Go.Proofs.YthhohbidjhcjeaaGreatDoorW.PrintWords Go.Proofs.YthhohbidjhcjeaaGreatDoorW.PrintLast Go.Proofs.YthhohbidjhcjeaaGreatDoorW.PrintMore
open Go.Proofs.YthhohbidjhcjeaaGreatDoor.Q Go.Proofs.YthhohbidjhcjeaaGreatDoor.Pl
set_option linter.unusedVariables false
set_option linter.unusedSimpArgs false
attribute [local go_sem] Oper.semAt_some
def runS (ps b : List S25) : Option (List S25 × List S25):=ps.foldl (fun s p => s.bind fun z => (pastS p z.1).map fun y => (y.1,z.2 ++ [y.2])) (some (b,[]))
theorem runS_snoc (ps : List S25) (p : S25) (b : List S25) : runS (ps ++ [p]) b = (runS ps b).bind fun z => (pastS p z.1).map fun y => (y.1,z.2 ++ [y.2]):=by
 unfold runS
 rw [List.foldl_append]
 rfl
theorem runS_none {ps : List S25} {b : List S25} (h : runS ps b = none) : ∀ qs,runS (ps ++ qs) b = none:=by
 intro qs
 unfold runS at h ⊢
 rw [List.foldl_append,h]
 induction qs with
 | nil => rfl
 | cons q qs ih => exact ih
theorem swapE_run : ∀ a b : List S25,swapS a b = (runS a.reverse b).map fun z => (z.1,z.2.reverse)
 | [],b => rfl
 | p :: a,b => by
  rw [swapS,List.reverse_cons,runS_snoc,swapE_run a b]
  cases runS a.reverse b with
  | none => rfl
  | some z =>
   simp only [Option.map_some,Option.bind_some]
   cases pastS p z.1 with
   | none => rfl
   | some y => simp
theorem okp_pasts : ∀ (a : List S25) (p : S25),Okp p → (∀ x ∈ a,Okp x) → ∀ y r,pastS p a = some (y,r) → Okp r ∧ (∀ x ∈ y,Okp x) ∧ y.length = a.length
 | [],p,hp,_,y,r,h => by
  simp only [pastS,Option.some.injEq,Prod.mk.injEq] at h
  obtain ⟨rfl,rfl⟩:=h
  exact ⟨hp,(fun x hx => by cases hx),rfl⟩
 | x :: a,p,hp,ha,y,r,h => by
  rcases comm_or p x with e | ⟨c,d,hy,e⟩
  ·rw [pastS,e,if_neg (by simp)] at h
   cases h
  ·obtain ⟨oc,od⟩:=okp_yes hy hp (ha x (List.mem_cons_self ..))
   rw [pastS,e,if_pos rfl] at h
   cases hq : pastS d a with
   | none =>
    rw [hq] at h
    cases h
   | some z =>
    rw [hq] at h
    obtain ⟨o1,o2,o3⟩:=okp_pasts a d od (fun z hz => ha z (List.mem_cons_of_mem _ hz)) z.1 z.2 hq
    simp only [Option.map_some,Option.some.injEq,Prod.mk.injEq] at h
    obtain ⟨rfl,rfl⟩:=h
    refine ⟨o1,fun w hw => ?_,by simp [o3]⟩
    rcases List.mem_cons.1 hw with rfl | hw
    ·exact oc
    ·exact o2 w hw
structure Sw (w : World) (vb vo : Value) (xb ys : List S25) (W : World) : Prop where
 below : Below w.heap.size w W
 b3 : Boxed W w.heap.size 34 vb
 b4 : Boxed W (w.heap.size + 1) 34 (.slice none 0 0)
 b5 : Boxed W (w.heap.size + 1 + 1) 34 (.slice none 0 0)
 b6 : Boxed W (w.heap.size + 1 + 1 + 1) 4 (.bool false)
 b7 : Boxed W (w.heap.size + 1 + 1 + 1 + 1) 34 vo
 rb : OwnRow (RwP w) 25 7 W (w.heap.size + 5) vb xb
 ro : OwnRow (RwP w) 25 7 W (w.heap.size + 5) vo ys
 ne : ∀ k,vb.ownBlock = some k → vo.ownBlock ≠ some k
theorem own_ne25 {w W : World} {base : Nat} {v : Value} {xs : List S25} (h : OwnRow (RwP w) 25 7 W base v xs) {B t : Nat} {u : Value} (hb : Boxed W B t u) (ht : 25 ≠ t) : some B ≠ v.ownBlock:=h.ne_block hb ht
theorem Sw.later {w W W' : World} {vb vo : Value} {xb ys : List S25} (h : Sw w vb vo xb ys W) (hb : Below W.heap.size W W') : Sw w vb vo xb ys W' :=
 ⟨h.below.trans (hb.mono h.below.size),blk_below h.b3 hb,blk_below h.b4 hb,blk_below h.b5 hb,blk_below h.b6 hb,blk_below h.b7 hb,h.rb.below hb,h.ro.below hb,h.ne⟩
theorem Sw.own {w X Y : World} {vb vo : Value} {xb ys : List S25} (h : Sw w vb vo xb ys X) {row : Option Nat} (hg : X.grownBy Y row) (hr : ∀ r,row = some r → w.heap.size ≤ r ∧ ∃ o : Obj,X.heap[r]? = some o ∧ o.isCells = false) : Sw w vb vo xb ys Y:=by
 have nb : ∀ {B t : Nat} {u : Value},Boxed X B t u → some B ≠ row:=fun {B t u} hb e => by
  obtain ⟨_,o,ho,hc⟩:=hr B e.symm
  rw [show X.heap[B]? = _ from hb] at ho
  cases ho
  cases hc
 have no : ∀ {v : Value} {xs : List S25},OwnRow (RwP w) 25 7 X (w.heap.size + 5) v xs → v.ownBlock = none ∨ v.ownBlock ≠ row:=fun {v xs} hv => by
  obtain ⟨inner,ho,_⟩:=hv
  rcases hk : v.ownBlock with _ | k
  ·exact .inl rfl
  ·refine .inr fun e => ?_
   obtain ⟨cells,hc⟩:=own_typed ho k hk
   obtain ⟨_,o,ho',hcc⟩:=hr k e.symm
   rw [hc] at ho'
   cases ho'
   cases hcc
 exact ⟨h.below.grown hg h.below.size (fun k e => (hr k e).1),h.b3.kept hg (nb h.b3),h.b4.kept hg (nb h.b4),h.b5.kept hg (nb h.b5),h.b6.kept hg (nb h.b6),h.b7.kept hg (nb h.b7),h.rb.other hg (no h.rb),h.ro.other hg (no h.ro),h.ne⟩
theorem Sw.set3 {w W : World} {vb vo vn : Value} {xb ys xn : List S25} (h : Sw w vb vo xb ys W) (hn : OwnRow (RwP w) 25 7 W (w.heap.size + 5) vn xn) (hne : ∀ k,vn.ownBlock = some k → vo.ownBlock ≠ some k) : Sw w vn vo xn ys (W.setCell ⟨w.heap.size,0,none⟩ vn) :=
 ⟨Below.setCell (p:=⟨w.heap.size,0,none⟩) h.below (Nat.le_refl _) _,h.b3.set vn,h.b4.other (by omega) _,h.b5.other (by omega) _,h.b6.other (by omega) _,h.b7.other (by omega) _,hn.set_ h.b3 (by decide) _ _,h.ro.set_ h.b3 (by decide) _ _,hne⟩
theorem Sw.set7 {w W W' : World} {vb vo vn : Value} {xb ys yn : List S25} (h : Sw w vb vo xb ys W) (hg : W.grownBy W' vo.ownBlock) (hn : OwnRow (RwP w) 25 7 W' (w.heap.size + 5) vn yn) (hat : vn.ownBlock = vo.ownBlock ∨ vn.ownBlock = some W.heap.size) : Sw w vb vn xb yn (W'.setCell ⟨w.heap.size + 1 + 1 + 1 + 1,0,none⟩ vn):=by
 have k3:=h.b3.kept hg (own_ne25 h.ro h.b3 (by decide))
 have k4:=h.b4.kept hg (own_ne25 h.ro h.b4 (by decide))
 have k5:=h.b5.kept hg (own_ne25 h.ro h.b5 (by decide))
 have k6:=h.b6.kept hg (own_ne25 h.ro h.b6 (by decide))
 have k7:=h.b7.kept hg (own_ne25 h.ro h.b7 (by decide))
 have kb : OwnRow (RwP w) 25 7 W' (w.heap.size + 5) vb xb:=h.rb.other hg (by
  rcases hk : vb.ownBlock with _ | k
  ·exact .inl rfl
  ·exact .inr (fun e => h.ne k hk e.symm))
 have hb : Below w.heap.size w W':=h.below.grown hg h.below.size (fun k e => by obtain ⟨_,ho,_⟩:=h.ro; have:=own_base ho k e; omega)
 refine ⟨Below.setCell (p:=⟨w.heap.size + 1 + 1 + 1 + 1,0,none⟩) hb (by show w.heap.size ≤ w.heap.size + 1 + 1 + 1 + 1; omega) _,k3.other (by omega) _,k4.other (by omega) _,k5.other (by omega) _,k6.other (by omega) _,k7.set vn,kb.set_ k7 (by decide) _ _,hn.set_ k7 (by decide) _ _,fun k hk e => ?_⟩
 rcases hat with hat | hat
 ·exact h.ne k hk (by rw [← hat]; exact e)
 ·rw [hat] at e
  obtain ⟨_,ho,_⟩:=h.rb
  have:=own_lt ho k hk
  cases e
  omega
theorem keeps_below {W W' : World} (h : Below W.heap.size W W') : KeepsOthers W W':=⟨h.size,fun k o hk _ => (h.block k (Array.getElem?_eq_some_iff.1 hk).1).trans hk⟩
theorem keeps_grown {w W W' : World} {base : Nat} {v : Value} {xs : List S25} (h : OwnRow (RwP w) 25 7 W base v xs) (hg : W.grownBy W' v.ownBlock) : KeepsOthers W W':=KeepsOthers.of_grownBy hg (fun j o e hj => by
 obtain ⟨inner,ho,_⟩:=h
 obtain ⟨cells,hc⟩:=own_typed ho j e
 rw [hc] at hj
 cases hj
 rfl)
structure SwNo (w : World) (W : World) : Prop where
 below : Below w.heap.size w W
 b4 : Boxed W (w.heap.size + 1) 34 (.slice none 0 0)
 b5 : Boxed W (w.heap.size + 1 + 1) 34 (.slice none 0 0)
 b6 : Boxed W (w.heap.size + 1 + 1 + 1) 4 (.bool false)
theorem SwNo.own {w X Y : World} (h : SwNo w X) {row : Option Nat} (hg : X.grownBy Y row) (hr : ∀ r,row = some r → w.heap.size ≤ r ∧ ∃ o : Obj,X.heap[r]? = some o ∧ o.isCells = false) : SwNo w Y:=by
 have nb : ∀ {B t : Nat} {u : Value},Boxed X B t u → some B ≠ row:=fun {B t u} hb e => by
  obtain ⟨_,o,ho,hc⟩:=hr B e.symm
  rw [show X.heap[B]? = _ from hb] at ho
  cases ho
  cases hc
 exact ⟨h.below.grown hg h.below.size (fun k e => (hr k e).1),h.b4.kept hg (nb h.b4),h.b5.kept hg (nb h.b5),h.b6.kept hg (nb h.b6)⟩
theorem five5 (w : World) (o1 o2 o3 o4 o5 : Obj) : (((((w.alloc o1).alloc o2).alloc o3).alloc o4).alloc o5).heap[w.heap.size]? = some o1 ∧ (((((w.alloc o1).alloc o2).alloc o3).alloc o4).alloc o5).heap[w.heap.size + 1]? = some o2 ∧ (((((w.alloc o1).alloc o2).alloc o3).alloc o4).alloc o5).heap[w.heap.size + 1 + 1]? = some o3 ∧ (((((w.alloc o1).alloc o2).alloc o3).alloc o4).alloc o5).heap[w.heap.size + 1 + 1 + 1]? = some o4 ∧ (((((w.alloc o1).alloc o2).alloc o3).alloc o4).alloc o5).heap[w.heap.size + 1 + 1 + 1 + 1]? = some o5 ∧ Below w.heap.size w (((((w.alloc o1).alloc o2).alloc o3).alloc o4).alloc o5):=by
 refine ⟨blk_alloc (blk_alloc (blk_alloc (box1 w o1 o2) _) _) _,blk_alloc (blk_alloc (blk_alloc (box2 w o1 o2) _) _) _,?_,?_,?_,?_⟩
 ·have h:=blk_alloc (box1 ((w.alloc o1).alloc o2) o3 o4) o5
  simpa using h
 ·have h:=blk_alloc (box2 ((w.alloc o1).alloc o2) o3 o4) o5
  simpa using h
 ·have h:=blk_new ((((w.alloc o1).alloc o2).alloc o3).alloc o4) o5
  simpa using h
 ·exact (((((Below.refl _ w).alloc (Nat.le_refl _) _).alloc (by simp) _).alloc (by simp; omega) _).alloc (by simp; omega) _).alloc (by simp; omega) _
def swapQ (a b : List S25) : List S25 × List S25 × Bool:=match swapS a b with
 | none => ([],[],false)
 | some z => (z.1,z.2,true)
theorem ret38 {tmps : Array Value} {W : World} {g4 g5 g6 : Nat} {v4 v5 v6 : Value} (h4 : tmps[4]? = some (.pointer (some ⟨g4,0,none⟩))) (h5 : tmps[5]? = some (.pointer (some ⟨g5,0,none⟩))) (h6 : tmps[6]? = some (.pointer (some ⟨g6,0,none⟩)))
  (c4 : W.cell? ⟨g4,0,none⟩ = some v4) (c5 : W.cell? ⟨g5,0,none⟩ = some v5) (c6 : W.cell? ⟨g6,0,none⟩ = some v6) : (results Tryz.f47 tmps).run Tryz.prog W = .ok (.tuple #[v4,v5,v6]) W:=by
 simp [results,Tryz.results47,go_sem, *]
def SwapPost (w : World) (a b : List S25) (e : Ending) (w' : World) : Prop :=
 ∃ X cx Y cy,e = .returned (.tuple #[.slice X (swapQ a b).1.length cx,.slice Y (swapQ a b).2.1.length cy,.bool (swapQ a b).2.2]) ∧ Kd.C k25 w' X (swapQ a b).1.length (swapQ a b).1 ∧ (swapQ a b).1.length ≤ cx ∧ Kd.C k25 w' Y (swapQ a b).2.1.length (swapQ a b).2.1 ∧ (swapQ a b).2.1.length ≤ cy ∧ Below w.heap.size w w'
theorem rd_F {w : World} {ok : Nat → Prop} {x : S25} {c : List Value} (h : Kd.FK k25 w ok x c) : ∃ X5 x5 X6 x6,c = [.int .i64 x.f0,.string x.f1,.string x.f2,.string x.f3,.int .i64 x.f4,.slice X5 x.f5.length x5,.slice X6 x.f6.length x6] ∧ Rd w x X5 x5 X6 x6:=by
 obtain ⟨X5,x5,X6,x6,e,l5,g5,l6,g6⟩:=k25_open (Kd.FK_now h)
 exact ⟨X5,x5,X6,x6,e,⟨g5,l5,g6,l6⟩⟩
set_option maxRecDepth 100000 in
set_option maxHeartbeats 8000000 in
theorem swap_in (a b : List S25) (A : Option Addr) (ca : Nat) (B : Option Addr) (cb : Nat) (w : World) (ha : ∀ x ∈ a,Okp x) (hb : ∀ x ∈ b,Okp x) (na : a.length ≤ 1000) (nb : b.length ≤ 1000) (ga : Kd.C k25 w A a.length a) (gb : Kd.C k25 w B b.length b) :
  CallsIn Fence.wide 6 Tryz.prog 47 #[.slice A a.length ca,.slice B b.length cb] w (SwapPost w a b):=by
 obtain ⟨x3,x4,x5,x6,x7,hT⟩:=five5 w (.cells #[.slice B b.length cb] 34) (.cells #[.slice none 0 0] 34) (.cells #[.slice none 0 0] 34) (.cells #[.bool false] 4) (.cells #[.slice none 0 0] 34)
 have rB : Aside0 (ReadsRow (RwP w) 7 (((((w.alloc (.cells #[.slice B b.length cb] 34)).alloc (.cells #[.slice none 0 0] 34)).alloc (.cells #[.slice none 0 0] 34)).alloc (.cells #[.bool false] 4)).alloc (.cells #[.slice none 0 0] 34)) B b.length b):=⟨rowsP_rw gb hT⟩
 have hTa:=Aside0.mk hT
 have c3:=Boxed.cell (W:=(((((w.alloc (.cells #[.slice B b.length cb] 34)).alloc (.cells #[.slice none 0 0] 34)).alloc (.cells #[.slice none 0 0] 34)).alloc (.cells #[.bool false] 4)).alloc (.cells #[.slice none 0 0] 34))) (B:=w.heap.size) (t:=34) x3
 have FA : Aside0 (Kd.F k25 w (fun k => k < w.heap.size) A a.length a):=⟨Kd.C_F k25_heap ga⟩
 have x3a:=Aside0.mk x3
 have x4a:=Aside0.mk x4
 have x5a:=Aside0.mk x5
 have x6a:=Aside0.mk x6
 have x7a:=Aside0.mk x7
 clear x3 x4 x5 x6 x7 hT ga gb
 refine callsIn_of_wp_marks Tryz.func47 rfl trivial ?_ rfl
 simp only [Tryz.ntmps47,List.size_toArray,List.length_cons,List.length_nil,Nat.reduceAdd,Nat.reduceSub,Array.replicate_succ,Array.replicate_zero,List.push_toArray,List.append_toArray,List.nil_append,List.cons_append]
 gi_wp2_with (first | (refine ⟨trivial,?_⟩; gi_at_call 84; refine (callsIn_wide.2 (clone_row w b B cb (((((w.alloc (.cells #[.slice B b.length cb] 34)).alloc (.cells #[.slice none 0 0] 34)).alloc (.cells #[.slice none 0 0] 34)).alloc (.cells #[.bool false] 4)).alloc (.cells #[.slice none 0 0] 34)) hTa.out (by omega) rB.out)).mono ?_; rintro e w1 ⟨v,rfl,hv,hb1⟩; obtain ⟨Av,cv,rfl,hcv⟩:=hv.slice_; have q3:=blk_below x3a.out hb1; have z3:=Boxed.cell (W:=w1) (B:=w.heap.size) (t:=34) q3; have f3:=Boxed.frozen (W:=w1) (B:=w.heap.size) (t:=34) q3; replace q3:=Aside0.mk q3; replace hb1:=Aside0.mk hb1; replace hv:=Aside0.mk hv; clear c3) | (refine ⟨trivial,?_⟩; gi_at_call 77; refine (back_inZ _ _ _ _ _).mono ?_; rintro e w' ⟨rfl,rfl⟩))
 have hS1 : Sw w (.slice Av b.length cv) (.slice none 0 0) b [] (w1.setCell ⟨w.heap.size,0,none⟩ (.slice Av b.length cv)):=by
  have hv5 : OwnRow (RwP w) 25 7 w1 (w.heap.size + 5) (.slice Av b.length cv) b:=hv.out.lower (by simp)
  exact ⟨Below.setCell (p:=⟨w.heap.size,0,none⟩) (hTa.out.trans (hb1.out.mono hTa.out.size)) (Nat.le_refl _) _,Boxed.set (.slice Av b.length cv) (v:=.slice B b.length cb) q3.out,Boxed.other (B:=w.heap.size + 1) (v:=.slice none 0 0) (blk_below x4a.out hb1.out) (by omega) _,Boxed.other (B:=w.heap.size + 1 + 1) (v:=.slice none 0 0) (blk_below x5a.out hb1.out) (by omega) _,Boxed.other (B:=w.heap.size + 1 + 1 + 1) (v:=.bool false) (blk_below x6a.out hb1.out) (by omega) _,Boxed.other (B:=w.heap.size + 1 + 1 + 1 + 1) (v:=.slice none 0 0) (blk_below x7a.out hb1.out) (by omega) _,hv5.set_ q3.out (by decide) _ _,OwnRow.none_ _ _ _ _ _,fun k hk e => by cases e⟩
 obtain ⟨V,hV⟩ : ∃ V,V = w1.setCell ⟨w.heap.size,0,none⟩ (.slice Av b.length cv):=⟨_,rfl⟩
 rw [← hV] at hS1 ⊢
 have bS:=Boxed.new V 34 (.slice A a.length ca)
 have hS2:=hS1.later (below_alloc (Below.refl _ V) (.cells #[.slice A a.length ca] 34))
 have hsV:=hS1.below.size
 have hlt7:=hS1.b7.lt
 obtain ⟨W0,hW0⟩ : ∃ W0,V.alloc (.cells #[.slice A a.length ca] 34) = W0:=⟨_,rfl⟩
 have hsz : W0.heap.size = V.heap.size + 1:=by rw [← hW0]; simp
 rw [hW0] at bS hS2 ⊢
 obtain ⟨Bs,hBs⟩ : ∃ Bs,Bs = V.heap.size:=⟨_,rfl⟩
 have hsV1 : V.heap.size = w1.heap.size:=by rw [hV]; simp
 (try rw [← hsV1])
 rw [← hBs] at bS hsz hlt7 ⊢
 clear hW0 hS1 hsV1 hV hBs hsV hv hb1 q3 z3 f3 x3a x4a x5a x6a x7a rB
 have hokp:=Aside0.mk hb
 refine wpIn_rangeFunc_ownH (F:=Fence.wide) rfl (by omega) (gf:=118) (lb:=#[.pointer (some ⟨Bs,0,none⟩)]) rfl trivial (enters_of Tryz.func118 (by kernel_rfl) rfl)
  (back_stopsZ 5 (by omega) Bs Okp w W0 (fun k => k < w.heap.size) A ca a (by omega) FA.out ha hS2.below bS.cell) ?kt ?kb (Below.refl _ _) (fun _ => rfl)
  (fun pre W => (∃ vb vo xb ys,Sw w vb vo xb ys W ∧ runS (pre.map (fun y => y.2.1.1)) b = some (xb,ys) ∧ (∀ x ∈ xb,Okp x) ∧ xb.length = b.length ∧ ys.length = pre.length) ∧ Boxed W Bs 34 (.slice A a.length ca))
  (fun c pre W => c = .ret ∧ runS (pre.map (fun y => y.2.1.1)) b = none ∧ SwNo w W)
  ?own ?ownr ⟨⟨.slice Av b.length cv,.slice none 0 0,b,[],hS2,rfl,hb,rfl,rfl⟩,bS⟩
  (fun x a' W => ∃ Bx,Bs < Bx ∧ W.heap[Bx]? = some (.cells x.2.1.2.toArray 25 (0,0)) ∧ a' = { tmps:=#[.slice A a.length ca,.slice B b.length cb,undef,.pointer (some ⟨w.heap.size,0,none⟩),.pointer (some ⟨w.heap.size + 1,0,none⟩),.pointer (some ⟨w.heap.size + 1 + 1,0,none⟩),.pointer (some ⟨w.heap.size + 1 + 1 + 1,0,none⟩),.pointer (some ⟨w.heap.size + 1 + 1 + 1 + 1,0,none⟩),undef,.pointer (some ⟨Bx,0,none⟩),undef,undef,undef,.slice B b.length cb,.slice Av b.length cv,.slice A a.length ca,.func (.func 118) #[] #[.pointer (some ⟨Bs,0,none⟩)],.int .i64 (x.1 : Int),.agg x.2.1.2.toArray,undef,undef,undef,undef,undef,undef,undef,undef,undef,undef,undef,undef,undef,undef,undef,undef,undef,undef],defers:=[] })
  ?ownx ?assign ?body ?done ?stop
 case kt => exact fun h k => ⟨h.1.trans k.1,fun v hv => k.2 v (h.2 v hv)⟩
 case kb => exact fun W l o o' hl h hc hw => ⟨belowK_b (w:=W0) (by have:=hS2.below.size; omega) W l o o' hl h hc hw,fun v hv => cell_kept hv (grownBy_putObj' W l o') (fun r e => by cases e; exact ⟨o,h,hc⟩)⟩
 case own =>
  rintro pre X Y row ⟨⟨vb,vo,xb,ys,hS,hr⟩,hbx⟩ hg hrow
  exact ⟨⟨vb,vo,xb,ys,hS.own hg (fun r e => ⟨by have:=(hrow r e).1; have:=hS2.below.size; omega,(hrow r e).2⟩),hr⟩,boxed_own _ 34 (fun (_ : Unit) => Value.slice A a.length ca) () X Y row hbx hg (fun r e => (hrow r e).2)⟩
 case ownr =>
  rintro c pre X Y row ⟨h1,h2,h3⟩ hg hrow
  exact ⟨h1,h2,h3.own hg (fun r e => ⟨by have:=(hrow r e).1; have:=hS2.below.size; omega,(hrow r e).2⟩)⟩
 case ownx =>
  rintro x a' u X Y row ⟨Bx,h1,h2,h3⟩ hg hrow
  refine ⟨Bx,h1,?_,h3⟩
  refine (hg.block Bx (Array.getElem?_eq_some_iff.1 h2).1 (fun e' => ?_)).trans h2
  obtain ⟨o,ho,hc⟩:=(hrow Bx e'.symm).2
  rw [h2] at ho; cases ho; cases hc
 case assign =>
  rintro l pre ⟨i,⟨⟨x,c⟩,hx,hz⟩⟩ W K ⟨⟨vb,vo,xb,ys,hS,hr⟩,hbx⟩ hK
  obtain ⟨X5,x5,X6,x6,hce,rx⟩:=rd_F hx
  dsimp only at hce
  subst hce
  dsimp only [encZ] at hK ⊢
  gi_wp2
  exact hK _ _ ((KeepsOthers.alloc _ _).from _) ⟨(Below.refl _ W).alloc hS.below.size _,fun v hv => by rw [hbx.cell] at hv; cases hv; exact (hbx.alloc _).cell⟩ ⟨⟨vb,vo,xb,ys,hS.later (below_alloc (Below.refl _ _) _),hr⟩,hbx.alloc _⟩ ⟨W.heap.size,hbx.lt,World.alloc_heap_new W _,rfl⟩
 case body =>
  rintro l pre ⟨i,⟨⟨x,c⟩,hx,hz⟩⟩ a' W hl _ ⟨⟨vb,vo,xb,ys,hS,hrun,hok,hlb,hly⟩,hbx⟩ ⟨Bx,hBx,hbx2,rfl⟩ hlt
  obtain ⟨X5,x5,X6,x6,hce,rx⟩:=rd_F hx
  dsimp only at hce hz
  subst hce
  dsimp only at hbx2 ⊢
  obtain ⟨Ab,cvb,rfl,hcb,rrb⟩:=hS.rb.reads
  obtain ⟨Ao,co,rfl,hco⟩:=hS.ro.slice_
  have hc3:=hS.b3.cell
  obtain ⟨p0,p1,p2,p3,p4,p5,p6⟩:=cells7 hbx2
  obtain ⟨t,ht⟩ : ∃ t,t = past x xb:=⟨_,rfl⟩
  have hcall : Aside0 (Calls Tryz.prog 43 #[.agg #[.int .i64 x.f0,.string x.f1,.string x.f2,.string x.f3,.int .i64 x.f4,.slice X5 x.f5.length x5,.slice X6 x.f6.length x6],.slice Ab xb.length cvb] W (fun e w' => ∃ v C5 e5 C6 e6,e = .returned (.tuple #[v,.agg (cs t.2.1 C5 e5 C6 e6),.bool t.2.2]) ∧ OwnRow (RwP w) 25 7 w' W.heap.size v t.1 ∧ Rd w t.2.1 C5 e5 C6 e6 ∧ Below W.heap.size W w')):=⟨by rw [ht]; exact past_row w x xb X5 x5 X6 x6 Ab cvb W hS.below hz hok (by omega) rx rrb⟩
  have hxb : Aside0 (xb.length ≤ 1000):=⟨by omega⟩
  replace hlb:=Aside0.mk hlb
  replace hly:=Aside0.mk hly
  replace rx:=Aside0.mk rx
  replace rrb:=Aside0.mk rrb
  replace ht:=Aside0.mk ht
  replace hS:=Aside0.mk hS
  replace hrun:=Aside0.mk hrun
  replace hok:=Aside0.mk hok
  have hlta : pre.length < a.length:=hlt
  clear hlt
  replace hx:=Aside0.mk hx
  gi_upto_region 6 with (refine ⟨trivial,?_⟩; gi_at_call 43; refine (CallsIn.inRound l (callsIn_wide.2 hcall.out)).mono ?_; rintro e w1 ⟨v',C5,e5,C6,e6,rfl,hv',hrd,hb1⟩; obtain ⟨Av',cv',rfl,hcv'⟩:=hv'.slice_; replace hv':=Aside0.mk hv'; replace hrd:=Aside0.mk hrd; replace hb1:=Aside0.mk hb1)
  have hal:=below_alloc (Below.refl _ w1) (.cells #[.int .i64 t.2.1.f0,.string t.2.1.f1,.string t.2.1.f2,.string t.2.1.f3,.int .i64 t.2.1.f4,.slice C5 t.2.1.f5.length e5,.slice C6 t.2.1.f6.length e6] 25)
  have hS5:=(hS.out.later hb1.out).later hal
  have hv5:=hv'.out.below hal
  have hk5:=(keeps_below hb1.out).trans (KeepsOthers.alloc w1 (.cells #[.int .i64 t.2.1.f0,.string t.2.1.f1,.string t.2.1.f2,.string t.2.1.f3,.int .i64 t.2.1.f4,.slice C5 t.2.1.f5.length e5,.slice C6 t.2.1.f6.length e6] 25))
  have hbx5 : Boxed _ Bs 34 (.slice A a.length ca):=blk_below (blk_below hbx hb1.out) hal
  have hb5:=hb1.out.alloc hb1.out.size (.cells #[.int .i64 t.2.1.f0,.string t.2.1.f1,.string t.2.1.f2,.string t.2.1.f3,.int .i64 t.2.1.f4,.slice C5 t.2.1.f5.length e5,.slice C6 t.2.1.f6.length e6] 25)
  have xg:=blk_new w1 (.cells #[.int .i64 t.2.1.f0,.string t.2.1.f1,.string t.2.1.f2,.string t.2.1.f3,.int .i64 t.2.1.f4,.slice C5 t.2.1.f5.length e5,.slice C6 t.2.1.f6.length e6] 25)
  have hge : W.heap.size ≤ w1.heap.size:=hb1.out.size
  clear hal
  generalize (w1.alloc (.cells #[.int .i64 t.2.1.f0,.string t.2.1.f1,.string t.2.1.f2,.string t.2.1.f3,.int .i64 t.2.1.f4,.slice C5 t.2.1.f5.length e5,.slice C6 t.2.1.f6.length e6] 25)) = Wz at hS5 hv5 hk5 hbx5 hb5 xg ⊢
  generalize w1.heap.size = g at xg hge ⊢
  clear hb1 hv' hcall hc3 p0 p1 p2 p3 p4 p5 p6
  cases hps : pastS x xb with
  | none =>
   have e1 : t = ([],z25,false):=by rw [ht.out,past_no hps]
   have hrn : Aside0 (runS ((pre ++ [(i,(⟨(x,[.int .i64 x.f0,.string x.f1,.string x.f2,.string x.f3,.int .i64 x.f4,.slice X5 x.f5.length x5,.slice X6 x.f6.length x6]),hx.out,hz⟩ : ElZ Okp w (fun k => k < w.heap.size)))]).map (fun y => y.2.1.1)) b = none):=⟨by rw [List.map_append,List.map_singleton,runS_snoc,hrun.out,Option.bind_some]; dsimp only; rw [hps]; rfl⟩
   have e22 : t.2.2 = false:=by rw [e1]
   rw [e22]
   have hn : SwNo w (((Wz.setCell ⟨w.heap.size + 1,0,none⟩ (.slice none 0 0)).setCell ⟨w.heap.size + 1 + 1,0,none⟩ (.slice none 0 0)).setCell ⟨w.heap.size + 1 + 1 + 1,0,none⟩ (.bool false)) :=
    ⟨Below.setCell (p:=⟨w.heap.size + 1 + 1 + 1,0,none⟩) (Below.setCell (p:=⟨w.heap.size + 1 + 1,0,none⟩) (Below.setCell (p:=⟨w.heap.size + 1,0,none⟩) hS5.below (by show w.heap.size ≤ w.heap.size + 1; omega) _) (by show w.heap.size ≤ w.heap.size + 1 + 1; omega) _) (by show w.heap.size ≤ w.heap.size + 1 + 1 + 1; omega) _,((hS5.b4.set _).other (by omega) _).other (by omega) _,((hS5.b5.other (by omega) _).set _).other (by omega) _,((hS5.b6.other (by omega) _).other (by omega) _).set _⟩
   replace hn:=Aside0.mk hn
   have c4:=hS5.b4.cell
   have f4:=hS5.b4.frozen
   have c5:=hS5.b5.cell
   have f5:=hS5.b5.frozen
   have c6:=hS5.b6.cell
   have f6:=hS5.b6.frozen
   replace hk5:=Aside0.mk hk5
   clear hS5 hv5 hbx5 xg e1 e22
   gi_wp2
   exact ⟨(hk5.out.trans ((KeepsOthers.setCell _ _ _).trans ((KeepsOthers.setCell _ _ _).trans (KeepsOthers.setCell _ _ _)))).from _,rfl,hrn.out,hn.out⟩
  | some yr =>
   obtain ⟨xn,r⟩:=yr
   have e1 : t = (xn,r,true):=by rw [ht.out,past_yes hps]
   obtain ⟨or,oxn,hlx⟩:=okp_pasts xb x hz hok.out xn r hps
   replace hlx:=Aside0.mk hlx
   have hrn : Aside0 (runS ((pre ++ [(i,(⟨(x,[.int .i64 x.f0,.string x.f1,.string x.f2,.string x.f3,.int .i64 x.f4,.slice X5 x.f5.length x5,.slice X6 x.f6.length x6]),hx.out,hz⟩ : ElZ Okp w (fun k => k < w.heap.size)))]).map (fun y => y.2.1.1)) b = some (xn,ys ++ [r])):=⟨by rw [List.map_append,List.map_singleton,runS_snoc,hrun.out,Option.bind_some]; dsimp only; rw [hps]; rfl⟩
   subst e1
   dsimp only at hv5 xg hrd ⊢
   have hvn : OwnRow (RwP w) 25 7 Wz (w.heap.size + 5) (.slice Av' xn.length cv') xn:=hv5.lower (by have:=hS.out.b7.lt; omega)
   have hnb : ∀ k,(Value.slice Av' xn.length cv').ownBlock = some k → (Value.slice Ao ys.length co).ownBlock ≠ some k:=fun k hk e => by (obtain ⟨_,ho,_⟩:=hv5; have h1:=own_base ho k hk; obtain ⟨_,ho2,_⟩:=hS.out.ro; have h2:=own_lt ho2 k e; omega)
   have hS6:=hS5.set3 hvn hnb
   have xg6 : (Wz.setCell ⟨w.heap.size,0,none⟩ (.slice Av' xn.length cv')).heap[g]? = _:=(Below.heap_setCell Wz ⟨w.heap.size,0,none⟩ _ g (by have:=hS.out.b7.lt; show g ≠ w.heap.size; omega)).trans xg
   have hbx6:=hbx5.other (B':=w.heap.size) (by omega) (.slice Av' xn.length cv')
   have hk6:=Aside0.mk (hk5.trans (KeepsOthers.setCell Wz ⟨w.heap.size,0,none⟩ (.slice Av' xn.length cv')))
   have hb6 : Below w.heap.size W (Wz.setCell ⟨w.heap.size,0,none⟩ (.slice Av' xn.length cv')):=Below.setCell (p:=⟨w.heap.size,0,none⟩) (hb5.mono hS.out.below.size) (Nat.le_refl _) _
   have c3:=hS5.b3.cell
   have f3:=hS5.b3.frozen
   have c7:=hS6.b7.cell
   obtain ⟨p0,p1,p2,p3,p4,p5,p6⟩:=cells7 xg6
   obtain ⟨i0,hi,hz0,hz1,hz2⟩:=info_parts infoR
   replace hi:=Aside0.mk hi
   replace hz0:=Aside0.mk hz0
   replace hz1:=Aside0.mk hz1
   replace hz2:=Aside0.mk hz2
   obtain ⟨inner,ho,hr⟩:=(hS6.ro)
   have ho1:=Aside0.mk (pw_own_below ho (below_alloc (Below.refl _ _) (.cells #[.int .i64 r.f0,.string r.f1,.string r.f2,.string r.f3,.int .i64 r.f4,.slice C5 r.f5.length e5,.slice C6 r.f6.length e6] 25)))
   replace hr:=Aside0.mk hr
   have hsz6:=hS6.b7.lt
   have hyl : Aside0 (ys.length + 1 ≤ 1000):=⟨by have:=hly.out; omega⟩
   replace hS6:=Aside0.mk hS6
   replace hb6:=Aside0.mk hb6
   generalize hWy : (Wz.setCell ⟨w.heap.size,0,none⟩ (.slice Av' xn.length cv')) = Wy at hS6 xg6 hbx6 hk6 hb6 c7 ho ho1 hsz6 p0 p1 p2 p3 p4 p5 p6
   gi_upto_region 9 with (fail)
   (try rw [hWy])
   clear hWy
   gi_wp2_with (gi_at_builtin; refine wpListIn_append_own_at _ rfl (.tmp 29) (.tmp 31) 34 rfl (w.heap.size + 5) 25 i0 _ 7 112 Tryz.underlying34 hi.out hz0.out hz1.out hz2.out rfl (by decide) (.slice Ao ys.length co) ys.length inner rfl ho1.out ⟨Wy.heap.size,0,none⟩ 1 1 [.int .i64 r.f0,.string r.f1,.string r.f2,.string r.f3,.int .i64 r.f4,.slice C5 r.f5.length e5,.slice C6 r.f6.length e6] rfl rfl (World.news_of_block (cs:=#[.int .i64 r.f0,.string r.f1,.string r.f2,.string r.f3,.int .i64 r.f4,.slice C5 r.f5.length e5,.slice C6 r.f6.length e6]) (t:=25) (fr:=(0,0)) (heap_alloc_new Wy _)) (rwP_one (w:=w)) ?m1 ?m2 ?m3 ?_; (case m1 => simp only [maxLen]; have:=hyl.out; omega); (case m2 => have:=hyl.out; omega); (case m3 => have:=hsz6; simp; omega); intro v2 w2 hown2 hg2 _ hat2; obtain ⟨g2,cap2,rfl⟩:=ownsRow_succ hown2; have b7:=Boxed.kept ((hS6.out.b7).alloc (.cells #[.int .i64 r.f0,.string r.f1,.string r.f2,.string r.f3,.int .i64 r.f4,.slice C5 r.f5.length e5,.slice C6 r.f6.length e6] 25)) hg2 (own_ne25 (hS6.out.ro.below (below_alloc (Below.refl _ _) (.cells #[.int .i64 r.f0,.string r.f1,.string r.f2,.string r.f3,.int .i64 r.f4,.slice C5 r.f5.length e5,.slice C6 r.f6.length e6] 25))) (hS6.out.b7.alloc _) (by decide)); have c8:=b7.cell; have f8:=b7.frozen; replace hown2:=Aside0.mk hown2; replace hg2:=Aside0.mk hg2; replace hat2:=Aside0.mk hat2)
   have hS7:=(hS6.out.later (below_alloc (Below.refl _ _) (.cells #[.int .i64 r.f0,.string r.f1,.string r.f2,.string r.f3,.int .i64 r.f4,.slice C5 r.f5.length e5,.slice C6 r.f6.length e6] 25)))
   have hn7 : OwnRow (RwP w) 25 7 w2 (w.heap.size + 5) (.slice (some ⟨g2,0,none⟩) (ys.length + 1) cap2) (ys ++ [r]):=⟨inner ++ [.int .i64 r.f0,.string r.f1,.string r.f2,.string r.f3,.int .i64 r.f4,.slice C5 r.f5.length e5,.slice C6 r.f6.length e6],by rw [List.length_append,List.length_singleton]; exact hown2.out,hr.out.snoc ⟨_,_,_,_,rfl,hrd.out⟩ rfl⟩
   have hfin:=hS7.set7 hg2.out hn7 hat2.out
   have hbx7 : Boxed w2 Bs 34 (.slice A a.length ca):=(hbx6.alloc _).kept hg2.out (own_ne25 hS7.ro (hbx6.alloc _) (by decide))
   have hbxF:=hbx7.other (B':=w.heap.size + 1 + 1 + 1 + 1) (by omega) (.slice (some ⟨g2,0,none⟩) (ys.length + 1) cap2)
   have hkF:=(hk6.out.trans (KeepsOthers.alloc Wy (.cells #[.int .i64 r.f0,.string r.f1,.string r.f2,.string r.f3,.int .i64 r.f4,.slice C5 r.f5.length e5,.slice C6 r.f6.length e6] 25))).trans ((keeps_grown hS7.ro hg2.out).trans (KeepsOthers.setCell w2 ⟨w.heap.size + 1 + 1 + 1 + 1,0,none⟩ (.slice (some ⟨g2,0,none⟩) (ys.length + 1) cap2)))
   have hbF : Below w.heap.size W (w2.setCell ⟨w.heap.size + 1 + 1 + 1 + 1,0,none⟩ (.slice (some ⟨g2,0,none⟩) (ys.length + 1) cap2)):=Below.setCell (p:=⟨w.heap.size + 1 + 1 + 1 + 1,0,none⟩) ((hb6.out.alloc hS6.out.below.size (.cells #[.int .i64 r.f0,.string r.f1,.string r.f2,.string r.f3,.int .i64 r.f4,.slice C5 r.f5.length e5,.slice C6 r.f6.length e6] 25)).grown hg2.out (by have:=hS6.out.below.size; simp; omega) (fun k e => by obtain ⟨_,ho3,_⟩:=hS7.ro; have:=own_base ho3 k e; omega)) (by show w.heap.size ≤ w.heap.size + 1 + 1 + 1 + 1; omega) _
   exact ⟨hkF.from _,⟨hbF,fun v hv => by rw [hbx.cell] at hv; cases hv; exact hbxF.cell⟩,⟨_,_,_,_,hfin,hrn.out,oxn,by rw [hlx.out]; exact hlb.out,by rw [List.length_append,List.length_append,hly.out]; rfl⟩,hbxF⟩
 case done =>
  rintro D pre W hD hpre ⟨⟨vb,vo,xb,ys,hS,hrun,hok,hlb,hly⟩,hbx⟩ hK
  have hsw : Aside0 (swapQ a b = (xb,ys.reverse,true)):=⟨by unfold swapQ; rw [swapE_run,← hpre,hrun]; rfl⟩
  obtain ⟨Ab,cvb,rfl,hcb⟩:=hS.rb.slice_
  obtain ⟨Ao,co,rfl,hco⟩:=hS.ro.slice_
  have c7:=hS.b7.cell
  have hrv:=Aside0.mk (reverse_at w ys W _ _ hS.ro)
  replace hlb:=Aside0.mk hlb
  replace hly:=Aside0.mk hly
  replace hrun:=Aside0.mk hrun
  replace hK:=Aside0.mk hK
  replace hS:=Aside0.mk hS
  clear hbx
  gi_wp2_with (refine ⟨trivial,?_⟩; gi_at_call 85; refine (callsIn_wide.2 hrv.out).mono ?_; rintro e w2 ⟨rfl,hrev,hg⟩; replace hrev:=Aside0.mk hrev; replace hg:=Aside0.mk hg)
  have e4:=hS.out.b4.kept hg.out (own_ne25 hS.out.ro hS.out.b4 (by decide))
  have e5:=hS.out.b5.kept hg.out (own_ne25 hS.out.ro hS.out.b5 (by decide))
  have e6:=hS.out.b6.kept hg.out (own_ne25 hS.out.ro hS.out.b6 (by decide))
  have e3:=hS.out.b3.kept hg.out (own_ne25 hS.out.ro hS.out.b3 (by decide))
  have e7:=hS.out.b7.kept hg.out (own_ne25 hS.out.ro hS.out.b7 (by decide))
  have hD2 : Aside0 (w2.heap[D]? = some (.deferred (some []))):=⟨(hg.out.block D (Array.getElem?_eq_some_iff.1 hK.out).1 (fun e => by obtain ⟨inner,ho,_⟩:=hS.out.ro; obtain ⟨cells,hc⟩:=own_typed ho D e.symm; rw [hK.out] at hc; cases hc)).trans hK.out⟩
  have kb : Aside0 (OwnRow (RwP w) 25 7 w2 (w.heap.size + 5) (.slice Ab xb.length cvb) xb):=⟨hS.out.rb.other hg.out (Classical.or_iff_not_imp_left.2 (fun hn e => by obtain ⟨k,hk⟩:=Option.ne_none_iff_exists'.1 hn; exact hS.out.ne k hk (by rw [← e]; exact hk)))⟩
  have hbel : Aside0 (Below w.heap.size w w2):=⟨hS.out.below.grown hg.out hS.out.below.size (fun k e => by obtain ⟨_,ho,_⟩:=hS.out.ro; have:=own_base ho k e; omega)⟩
  have c3:=e3.cell
  have c7':=e7.cell
  have c4:=e4.cell
  have f4:=e4.frozen
  have c5:=e5.cell
  have f5:=e5.frozen
  have c6:=e6.cell
  have f6:=e6.frozen
  clear c7 hrv
  gi_region
  gi_wp2
  have q4 : ∀ k,k < 5 → D ≠ w.heap.size + k:=fun k hk => by have:=hS2.b7.lt; omega
  obtain ⟨w3,hw3⟩ : ∃ U,U = (((w2.setCell ⟨w.heap.size + 1,0,none⟩ (.slice Ab xb.length cvb)).setCell ⟨w.heap.size + 1 + 1,0,none⟩ (.slice Ao ys.length co)).setCell ⟨w.heap.size + 1 + 1 + 1,0,none⟩ (.bool true)).drew:=⟨_,rfl⟩
  rw [← hw3]
  have hKF : w3.heap[D]? = some (.deferred (some [])):=by rw [hw3]; exact (((Below.heap_setCell _ ⟨w.heap.size + 1 + 1 + 1,0,none⟩ _ D (q4 3 (by omega))).trans (Below.heap_setCell _ ⟨w.heap.size + 1 + 1,0,none⟩ _ D (q4 2 (by omega)))).trans (Below.heap_setCell _ ⟨w.heap.size + 1,0,none⟩ _ D (q4 1 (by omega)))).trans hD2.out
  have g4 : Boxed w3 (w.heap.size + 1) 34 (.slice Ab xb.length cvb):=by rw [hw3]; exact ((e4.set (.slice Ab xb.length cvb)).other (by omega) _).other (by omega) _
  have g5 : Boxed w3 (w.heap.size + 1 + 1) 34 (.slice Ao ys.length co):=by rw [hw3]; exact ((e5.other (by omega) _).set (.slice Ao ys.length co)).other (by omega) _
  have g6 : Boxed w3 (w.heap.size + 1 + 1 + 1) 4 (.bool true):=by rw [hw3]; exact ((e6.other (by omega) _).other (by omega) _).set (.bool true)
  have row3 : ∀ {v : Value} {xs : List S25},OwnRow (RwP w) 25 7 w2 (w.heap.size + 5) v xs → OwnRow (RwP w) 25 7 w3 (w.heap.size + 5) v xs:=fun h => by rw [hw3]; exact own_drew (((h.set_ e4 (by decide) _ _).set_ (e5.other (by omega) _) (by decide) _ _).set_ ((e6.other (by omega) _).other (by omega) _) (by decide) _ _)
  have bel3 : Below w.heap.size w w3:=by rw [hw3]; exact below_drew (Below.setCell (p:=⟨w.heap.size + 1 + 1 + 1,0,none⟩) (Below.setCell (p:=⟨w.heap.size + 1 + 1,0,none⟩) (Below.setCell (p:=⟨w.heap.size + 1,0,none⟩) hbel.out (by show w.heap.size ≤ w.heap.size + 1; omega) _) (by show w.heap.size ≤ w.heap.size + 1 + 1; omega) _) (by show w.heap.size ≤ w.heap.size + 1 + 1 + 1; omega) _)
  have nD : ∀ {v : Value} {xs : List S25},OwnRow (RwP w) 25 7 w3 (w.heap.size + 5) v xs → v.ownBlock = none ∨ v.ownBlock ≠ some D:=fun {v xs} h => Classical.or_iff_not_imp_left.2 (fun _ e => by obtain ⟨_,ho,_⟩:=h; obtain ⟨cells,hc⟩:=own_typed ho D e; rw [hKF] at hc; cases hc)
  have gp:=grownBy_putObj' w3 D (.deferred none)
  have rX:=(row3 kb.out).other gp (nD (row3 kb.out))
  have rY:=(row3 hrev.out).other gp (nD (row3 hrev.out))
  have belF : Below w.heap.size w (w3.putObj D (.deferred none)):=bel3.grown gp bel3.size (fun k e => by cases e; have:=hS2.b7.lt; omega)
  obtain ⟨A1,c1,he1,hl1,hr1⟩:=rX.reads
  injection he1 with h1 h2 h3
  subst h1 h3
  obtain ⟨A2,c2,he2,hl2,hr2⟩:=rY.reads
  injection he2 with h1 h2 h3
  subst h1 h3
  refine ⟨by simp,.inl ⟨_,_,rfl,run_takeDeferred hKF,?_⟩⟩
  refine ⟨_,ret38 (g4:=w.heap.size + 1) (g5:=w.heap.size + 1 + 1) (g6:=w.heap.size + 1 + 1 + 1) rfl rfl rfl (Boxed.cell (g4.kept gp (fun e => by cases e; have:=hS2.b7.lt; omega))) (Boxed.cell (g5.kept gp (fun e => by cases e; have:=hS2.b7.lt; omega))) (Boxed.cell (g6.kept gp (fun e => by cases e; have:=hS2.b7.lt; omega))),?_⟩
  unfold SwapPost
  rw [hsw.out]
  exact ⟨_,_,_,_,by simp only [List.length_reverse],rr_C hr1 belF,hl1,rr_C hr2 belF,hl2,belF⟩
 case stop =>
  rintro D c pre W hD hpre ⟨rfl,hno,hN⟩ hK
  have hsw : swapQ a b = ([],[],false):=by
   obtain ⟨rest,hre⟩:=hpre
   unfold swapQ
   rw [swapE_run,← hre,runS_none hno]
   rfl
  replace hN:=Aside0.mk hN
  replace hsw:=Aside0.mk hsw
  gi_wp2
  have gp:=grownBy_putObj' W D (.deferred none)
  have belF : Below w.heap.size w (W.putObj D (.deferred none)):=hN.out.below.grown gp hN.out.below.size (fun k e => by cases e; have:=hS2.b7.lt; omega)
  refine ⟨by simp,.inl ⟨_,_,rfl,run_takeDeferred hK,?_⟩⟩
  refine ⟨_,ret38 (g4:=w.heap.size + 1) (g5:=w.heap.size + 1 + 1) (g6:=w.heap.size + 1 + 1 + 1) rfl rfl rfl (Boxed.cell (hN.out.b4.kept gp (fun e => by cases e; have:=hS2.b7.lt; omega))) (Boxed.cell (hN.out.b5.kept gp (fun e => by cases e; have:=hS2.b7.lt; omega))) (Boxed.cell (hN.out.b6.kept gp (fun e => by cases e; have:=hS2.b7.lt; omega))),?_⟩
  unfold SwapPost
  rw [hsw.out]
  exact ⟨none,0,none,0,rfl,Kd.C_nil _ _,Nat.le_refl _,Kd.C_nil _ _,Nat.le_refl _,belF⟩
end Go.Proofs.YthhohbidjhcjeaaGreatDoor.H
namespace Go.Proofs.YthhohbidjhcjeaaGreatDoor.H
open Go.RowKit Go.Proofs.YthhohbidjhcjeaaGreatDoorW.PrintWords Go.Proofs.YthhohbidjhcjeaaGreatDoorW.PrintLast Go.Proofs.YthhohbidjhcjeaaGreatDoorW.PrintMore
open Go.Proofs.YthhohbidjhcjeaaGreatDoor.Q Go.Proofs.YthhohbidjhcjeaaGreatDoor.Pl
set_option linter.unusedVariables false
set_option linter.unusedSimpArgs false
abbrev Pa : S25:=⟨1,⟨#[97]⟩,⟨#[]⟩,⟨#[]⟩,0,[],[]⟩
abbrev Pb : S25:=⟨1,⟨#[98]⟩,⟨#[]⟩,⟨#[]⟩,0,[],[]⟩
abbrev Rb : S25:=⟨2,⟨#[98]⟩,⟨#[]⟩,⟨#[]⟩,0,[],[]⟩
abbrev Ra : S25:=⟨2,⟨#[97]⟩,⟨#[]⟩,⟨#[]⟩,0,[],[]⟩
def cellsN (x : S25) : List Value:=[.int .i64 x.f0,.string x.f1,.string x.f2,.string x.f3,.int .i64 x.f4,.slice none 0 0,.slice none 0 0]
theorem rw_nil (w : World) (x : S25) (h5 : x.f5 = []) (h6 : x.f6 = []) : RwP w x (cellsN x):=⟨none,0,none,0,by rw [h5,h6]; rfl,rd_none w x h5 h6⟩
theorem reps_nil (w : World) : ∀ xs : List S25,(∀ x ∈ xs,x.f5 = [] ∧ x.f6 = []) → Reps (RwP w) 7 xs (xs.flatMap cellsN)
 | [],_ => Reps.none _ _
 | x :: xs,h => by
  have h1:=h x (List.mem_cons_self ..)
  have hx : Reps (RwP w) 7 [x] (cellsN x):=by
   have:=(Reps.none (RwP w) 7).snoc (rw_nil w x h1.1 h1.2) rfl
   simpa using this
  exact reps_app hx (reps_nil w xs (fun y hy => h y (List.mem_cons_of_mem _ hy)))
theorem lit_nil (w : World) (xs : List S25) (h : ∀ x ∈ xs,x.f5 = [] ∧ x.f6 = []) (hn : xs.length ≤ 1000) : Kd.C k25 (w.alloc (.cells (xs.flatMap cellsN).toArray 25)) (some ⟨w.heap.size,0,none⟩) xs.length xs:=by
 have ho:=OwnRow.lit (e:=25) w w.heap.size (reps_nil w xs h) (Nat.le_refl _) (by omega)
 obtain ⟨A,c,he,_,hr⟩:=ho.reads
 injection he with h1 h2 h3
 subst h1
 exact rr_C hr (below_alloc (Below.refl _ _) _)
theorem ok_a : Okp Pa:=⟨⟨by decide,by decide⟩,by decide,by decide,by decide⟩
theorem ok_b : Okp Pb:=⟨⟨by decide,by decide⟩,by decide,by decide,by decide⟩
theorem ok_ra : Okp Ra:=⟨⟨by decide,by decide⟩,by decide,by decide,by decide⟩
theorem ok_rb : Okp Rb:=⟨⟨by decide,by decide⟩,by decide,by decide,by decide⟩
theorem yes_ab : Yes Pa Pb Pb Pa:=⟨by decide +kernel,by decide +kernel,by decide +kernel,by decide +kernel,by kernel_rfl⟩
theorem past_ab : pastS Pa [Pb] = some ([Pb],Pa):=by rw [pastS,comm_of yes_ab,if_pos rfl,pastS]; rfl
theorem swap_ab : swapQ [Pa] [Pb] = ([Pb],[Pa],true):=by
 unfold swapQ
 rw [swapS,swapS,Option.bind_some,past_ab]
 rfl
theorem last_ab : lastP [Pa,Pb] 0 = ([Pb,Pa],true):=by
 rw [show (0 : Int) = ((0 : Nat) : Int) from rfl,lastP_in (by decide),lastS_yes (by decide) past_ab]
 rfl
theorem last_nil : lastP [] 0 = ([],false):=lastP_out (.inr (by decide))
theorem coal_a : coalS [Pa] = [Pa]:=rfl
theorem coal_4 : coalS [Pa,Pb,Rb,Ra] = []:=by kernel_rfl
set_option maxHeartbeats 4000000 in
set_option maxRecDepth 100000 in
theorem head11_calls (w : World) : Calls Tryz.prog 46 #[] w fun e w' => e = .returned (.bool true) ∧ Below w.heap.size w w':=by
 have hT : Below w.heap.size w ((w.alloc (.cells #[.int .i64 1,.string ⟨#[97]⟩,.string ⟨#[]⟩,.string ⟨#[]⟩,.int .i64 0,.slice none 0 0,.slice none 0 0] 25)).alloc (.cells #[.int .i64 1,.string ⟨#[98]⟩,.string ⟨#[]⟩,.string ⟨#[]⟩,.int .i64 0,.slice none 0 0,.slice none 0 0] 25)):=((Below.refl _ _).alloc (Nat.le_refl _) _).alloc (by simp) _
 have xa:=box1 w (.cells #[.int .i64 1,.string ⟨#[97]⟩,.string ⟨#[]⟩,.string ⟨#[]⟩,.int .i64 0,.slice none 0 0,.slice none 0 0] 25) (.cells #[.int .i64 1,.string ⟨#[98]⟩,.string ⟨#[]⟩,.string ⟨#[]⟩,.int .i64 0,.slice none 0 0,.slice none 0 0] 25)
 have xb:=box2 w (.cells #[.int .i64 1,.string ⟨#[97]⟩,.string ⟨#[]⟩,.string ⟨#[]⟩,.int .i64 0,.slice none 0 0,.slice none 0 0] 25) (.cells #[.int .i64 1,.string ⟨#[98]⟩,.string ⟨#[]⟩,.string ⟨#[]⟩,.int .i64 0,.slice none 0 0,.slice none 0 0] 25)
 have gl:=lit_nil ((w.alloc (.cells #[.int .i64 1,.string ⟨#[97]⟩,.string ⟨#[]⟩,.string ⟨#[]⟩,.int .i64 0,.slice none 0 0,.slice none 0 0] 25)).alloc (.cells #[.int .i64 1,.string ⟨#[98]⟩,.string ⟨#[]⟩,.string ⟨#[]⟩,.int .i64 0,.slice none 0 0,.slice none 0 0] 25)) [Pa,Pb,Rb,Ra] (by intro x hx; simp only [List.mem_cons,List.not_mem_nil,or_false] at hx; rcases hx with rfl | rfl | rfl | rfl <;> exact ⟨rfl,rfl⟩) (by decide)
 simp only [World.size_alloc] at gl
 replace hT:=Aside0.mk hT
 replace xa:=Aside0.mk xa
 replace xb:=Aside0.mk xb
 replace gl:=Aside0.mk gl
 go_enter Tryz.func46,Tryz.ntmps46
 go_wp2_with (fail)
 refine (coal_at [Pa,Pb,Rb,Ra] (some ⟨w.heap.size + 1 + 1,0,none⟩) 4 _ (by intro x hx; simp only [List.mem_cons,List.not_mem_nil,or_false] at hx; rcases hx with rfl | rfl | rfl | rfl <;> first | exact ok_a | exact ok_b | exact ok_rb | exact ok_ra) (by decide) gl.out (by decide)).mono ?_
 rintro e w1 ⟨v,rfl,hv,hb1⟩
 rw [coal_4] at hv
 obtain ⟨Av,cv,rfl,_⟩:=hv.slice
 have hs1 : Below ((w.alloc (.cells #[.int .i64 1,.string ⟨#[97]⟩,.string ⟨#[]⟩,.string ⟨#[]⟩,.int .i64 0,.slice none 0 0,.slice none 0 0] 25)).alloc (.cells #[.int .i64 1,.string ⟨#[98]⟩,.string ⟨#[]⟩,.string ⟨#[]⟩,.int .i64 0,.slice none 0 0,.slice none 0 0] 25)).heap.size ((w.alloc (.cells #[.int .i64 1,.string ⟨#[97]⟩,.string ⟨#[]⟩,.string ⟨#[]⟩,.int .i64 0,.slice none 0 0,.slice none 0 0] 25)).alloc (.cells #[.int .i64 1,.string ⟨#[98]⟩,.string ⟨#[]⟩,.string ⟨#[]⟩,.int .i64 0,.slice none 0 0,.slice none 0 0] 25)) w1:=two_steps (below_alloc (Below.refl _ _) _) hb1
 have hw1 : Below w.heap.size w w1:=hT.out.trans (hs1.mono hT.out.size)
 replace xa:=blk_below xa.out hs1
 replace xb:=blk_below xb.out hs1
 clear gl hT hv hb1 hs1
 obtain ⟨a0,a1,a2,a3,a4,a5,a6⟩:=cells7 xa
 obtain ⟨b0,b1,b2,b3,b4,b5,b6⟩:=cells7 xb
 obtain ⟨d0,d1,d2,d3,d4,d5,d6⟩:=deep1 xb
 go_wp2_with (fail)
 have ga:=Kd.C_below (lit_nil w1 [Pa] (by intro x hx; rw [List.mem_singleton.1 hx]; exact ⟨rfl,rfl⟩) (by decide)) (below_alloc (Below.refl _ _) (.cells #[.int .i64 1,.string ⟨#[98]⟩,.string ⟨#[]⟩,.string ⟨#[]⟩,.int .i64 0,.slice none 0 0,.slice none 0 0] 25))
 have gb:=lit_nil (w1.alloc (.cells #[.int .i64 1,.string ⟨#[97]⟩,.string ⟨#[]⟩,.string ⟨#[]⟩,.int .i64 0,.slice none 0 0,.slice none 0 0] 25)) [Pb] (by intro x hx; rw [List.mem_singleton.1 hx]; exact ⟨rfl,rfl⟩) (by decide)
 simp only [World.size_alloc] at gb
 refine (callsIn_wide.1 (swap_in [Pa] [Pb] (some ⟨w1.heap.size,0,none⟩) 1 (some ⟨w1.heap.size + 1,0,none⟩) 1 _ (by intro x hx; rw [List.mem_singleton.1 hx]; exact ok_a) (by intro x hx; rw [List.mem_singleton.1 hx]; exact ok_b) (by decide) (by decide) ga gb)).mono ?_
 intro e w2 h2
 unfold SwapPost at h2
 rw [swap_ab] at h2
 obtain ⟨X,cx,Y,cy,rfl,gX,hX,gY,hY,hb2⟩:=h2
 have hs2 : Below w1.heap.size w1 w2:=two_steps (((Below.refl _ w1).alloc (Nat.le_refl _) _).alloc (by simp) _) hb2
 have hw2:=hw1.trans (hs2.mono hw1.size)
 replace xa:=blk_below xa hs2
 replace xb:=blk_below xb hs2
 clear ga gb hs2 hb2 hw1 gY d0 d1 d2 d3 d4 d5 d6
 clear a0 b0 a1 b1 a2 b2 a3 b3 a4 b4 a5 b5 a6 b6
 obtain ⟨a0,a1,a2,a3,a4,a5,a6⟩:=cells7 xa
 obtain ⟨b0,b1,b2,b3,b4,b5,b6⟩:=cells7 xb
 dsimp only [List.length_cons,List.length_nil]
 go_wp2_with (fail)
 have gl:=lit_nil w2 [Pa,Pb] (by intro x hx; simp only [List.mem_cons,List.not_mem_nil,or_false] at hx; rcases hx with rfl | rfl <;> exact ⟨rfl,rfl⟩) (by decide)
 refine (last_at [Pa,Pb] 0 (some ⟨w2.heap.size,0,none⟩) 2 _ (by intro x hx; simp only [List.mem_cons,List.not_mem_nil,or_false] at hx; rcases hx with rfl | rfl <;> first | exact ok_a | exact ok_b) (by decide) gl (by decide)).mono ?_
 intro e w3 h3
 unfold LastPost at h3
 rw [last_ab] at h3
 obtain ⟨Z,cz,rfl,gZ,hZ,hb3⟩:=h3
 have hs3 : Below w2.heap.size w2 w3:=two_steps (below_alloc (Below.refl _ _) _) hb3
 have hw3:=hw2.trans (hs3.mono hw2.size)
 replace xa:=blk_below xa hs3
 replace gX:=Kd.C_below gX hs3
 clear gl hs3 hb3 hw2 xb
 clear a0 b0 a1 b1 a2 b2 a3 b3 a4 b4 a5 b5 a6 b6
 obtain ⟨a0,a1,a2,a3,a4,a5,a6⟩:=cells7 xa
 dsimp only [List.length_cons,List.length_nil]
 go_wp2_with (fail)
 refine (last_at [] 0 none 0 _ (by intro x hx; cases hx) (by decide) (Kd.C_nil _ _) (Nat.le_refl _)).mono ?_
 intro e w4 h4
 unfold LastPost at h4
 rw [last_nil] at h4
 obtain ⟨U,cu,rfl,-,-,hb4⟩:=h4
 have hw4:=hw3.trans (hb4.mono hw3.size)
 replace xa:=blk_below xa hb4
 replace gX:=Kd.C_below gX hb4
 replace gZ:=Kd.C_below gZ hb4
 clear hb4 hw3 a0 a1 a2 a3 a4 a5 a6
 obtain ⟨a0,a1,a2,a3,a4,a5,a6⟩:=cells7 xa
 obtain ⟨ad,_,_,_,_,rfl,_,zx,_⟩:=at_T25 gX 0 (by omega) (by simp)
 obtain ⟨ad2,_,_,_,_,rfl,_,zz,_⟩:=at_T25 gZ 1 (by omega) (by simp)
 have yx : w4.cell? ⟨ad.block,ad.off + 1,none⟩ = some (.string ⟨#[98]⟩):=by simpa [Addr.add,rd_T25] using zx
 have yz : w4.cell? ⟨ad2.block,ad2.off + 7 + 1,none⟩ = some (.string ⟨#[97]⟩):=by simpa [Addr.add,rd_T25] using zz
 clear zx zz gX gZ
 dsimp only [List.length_cons,List.length_nil]
 go_wp2_with (fail)
 have gl:=lit_nil w4 [Pa] (by intro x hx; rw [List.mem_singleton.1 hx]; exact ⟨rfl,rfl⟩) (by decide)
 refine (coal_at [Pa] (some ⟨w4.heap.size,0,none⟩) 1 _ (by intro x hx; rw [List.mem_singleton.1 hx]; exact ok_a) (by decide) gl (by decide)).mono ?_
 rintro e w5 ⟨v,rfl,hv,hb5⟩
 rw [coal_a] at hv
 obtain ⟨A5,c5,rfl,_⟩:=hv.slice
 have hs5 : Below w4.heap.size w4 w5:=two_steps (below_alloc (Below.refl _ _) _) hb5
 have hw5:=hw4.trans (hs5.mono hw4.size)
 clear gl hv hb5 hs5 hw4 xa yx yz
 clear a0 a1 a2 a3 a4 a5 a6
 dsimp only [List.length_cons,List.length_nil]
 go_wp2
 go_ret
 exact ⟨rfl,hw5⟩
open Go.RowKit Go.Shelf Go.Proofs.YthhohbidjhcjeaaGreatDoorW.PrintWords Go.Proofs.YthhohbidjhcjeaaGreatDoorW.PrintLast Go.Proofs.YthhohbidjhcjeaaGreatDoorW.PrintMore
theorem same05E (a : List ByteArray) (hn : a.length ≤ 140737488355328) : ∀ (d i : Nat),i + d = a.length → Ev (fun k => counterpaneref05_Same.l0 k a a (i : Int)) true:=by
 intro d
 induction d with
 | zero =>
  intro i hi
  refine Ev.step (f:=fun _ => some true) (fun k => ?_) (Ev.now _)
  simp only [counterpaneref05_Same.l0]
  rw [if_neg (by omega)]
 | succ d ih =>
  intro i hi
  have h1 : i < a.length:=by omega
  refine Ev.step (f:=fun k => counterpaneref05_Same.l0 k a a ((i + 1 : Nat) : Int)) (fun k => ?_) (ih (i + 1) (by omega))
  simp only [counterpaneref05_Same.l0]
  rw [if_pos (by omega),if_pos (by omega),if_pos (by omega),if_pos trivial,wrap_1 h1 hn]
theorem same05_at (a : List ByteArray) (hn : a.length ≤ 140737488355328) (A : Option Addr) (c : Nat) (B : Option Addr) (d : Nat) (w : World) (h0 : Kd.string.C w A a.length a) (h1 : a.length ≤ c) (h2 : Kd.string.C w B a.length a) (h3 : a.length ≤ d) :
  Calls Tryz.prog 72 #[.slice A a.length c,.slice B a.length d] w fun e w' => e = .returned (.bool true) ∧ Below w.heap.size w w':=by
 obtain ⟨k,hk⟩:=(same05E a hn a.length 0 (by omega)).rounds
 have hf : counterpaneref05_Same.f k a a = some true:=by
  unfold counterpaneref05_Same.f
  rw [if_pos rfl]
  exact hk
 exact (counterpaneref05_Same.calls k A c a B d a true w h0 h1 h2 h3 hf).mono fun e w' h => ⟨h.1,h.2.below⟩

set_option maxHeartbeats 32000000 in
set_option maxRecDepth 1000000 in
theorem sameE_at (l : List S41) (hn : l.length ≤ 140737488355328) (hx : ∀ x ∈ l,x.f2.length ≤ 140737488355328) (A : Option Addr) (c : Nat) (B : Option Addr) (d : Nat) (w : World) (h0 : Kd.C k41 w A l.length l) (h1 : l.length ≤ c) (h2 : Kd.C k41 w B l.length l) (h3 : l.length ≤ d) :
  Calls Tryz.prog 27 #[.slice A l.length c,.slice B l.length d] w fun e w' => e = .returned (.bool true) ∧ Below w.heap.size w w':=by
 have HA:=Aside0.mk h0
 have HB:=Aside0.mk h2
 have HX:=Aside0.mk hx
 have HN:=Aside0.mk hn
 have B0 : Aside0 (Below w.heap.size w w):=⟨Below.refl _ _⟩
 clear h0 h1 h2 h3 hx
 go_enter Tryz.func27,Tryz.ntmps27
 go_wp2
 go_loopg [5] l.length (fun kx s5 wr => ∃ i : Nat,s5 = .int .i64 i ∧ i + kx = l.length ∧ Aside0 (Below w.heap.size w wr))
 case atStart => exact ⟨0,rfl,by omega,B0⟩
 case round =>
  clear B0
  obtain ⟨i,rfl,hi,B1⟩:=hrel
  by_cases hlt : i < l.length
  ·have hi0 : (0 : Int) ≤ (i : Int):=by omega
   have hi1 : (i : Int) < (l.length : Int):=by omega
   have hdb : decide ((i : Int) < (l.length : Int)) = true:=decide_eq_true hi1
   have hwi : IntKind.i64.wrap ((i : Int) + 1) = ((i + 1 : Nat) : Int):=by rw [wrap_small _ (by omega) (by omega)]; omega
   obtain ⟨ad,X,e,rfl,rx,x0,x1,x2,x3⟩:=ent_at (Kd.C_below HA.out B1.out) i hlt rfl
   obtain ⟨bd,Y,f,rfl,ry,y0,y1,y2,y3⟩:=ent_at (Kd.C_below HB.out B1.out) i hlt rfl
   obtain ⟨x,hxe⟩ : ∃ x,l.getD i z41 = x:=⟨_,rfl⟩
   rw [hxe] at rx x0 x1 x2 x3 ry y0 y1 y2 y3
   have hxm : x ∈ l:=by rw [← hxe,getD_get hlt]; exact List.getElem_mem hlt
   have hLn : Aside0 (∀ W,Below wr.heap.size wr W → Calls Tryz.prog 72 #[.slice X x.f2.length e,.slice Y x.f2.length f] W fun e w' => e = .returned (.bool true) ∧ Below W.heap.size W w') :=
    ⟨fun W hb => same05_at x.f2 (HX.out x hxm) X e Y f W (rx.later hb).g rx.l (ry.later hb).g ry.l⟩
   have ne0 : (x.f0.toList != x.f0.toList) = false:=by simp
   have ne3 : (x.f3.toList != x.f3.toList) = false:=by simp
   have ne1 : (x.f1 != x.f1) = false:=by simp
   replace x0:=Aside0.mk x0
   replace x1:=Aside0.mk x1
   replace x2:=Aside0.mk x2
   replace x3:=Aside0.mk x3
   replace y0:=Aside0.mk y0
   replace y1:=Aside0.mk y1
   replace y2:=Aside0.mk y2
   replace y3:=Aside0.mk y3
   clear rx ry hxe hxm
   go_upto_region 6 with (fail)
   refine wp_region_held_drew (S:=Below wr.drew.heap.size wr.drew) (by kernel_rfl) (Below.refl _ _) (fun hS => ?_)
   refine' tkE 0 17 hS ?_ ?_; rotate_left
   ·intro W' hSW; go_simp; (try with_reducible rfl)
   refine' tkE 1 18 hS ?_ ?_; rotate_left
   ·intro W' hSW; go_simp; (try with_reducible rfl)
   refine' tkE 2 19 hS ?_ ?_; rotate_left
   ·intro W' hSW; go_simp; (try with_reducible rfl)
   refine' tkE 3 20 hS ?_ ?_; rotate_left
   ·intro W' hSW; go_simp; (try with_reducible rfl)
   refine' tkE 4 21 hS ?_ ?_; rotate_left
   ·intro W' hSW; have k0:=pw_cell_below ((below_drew (Below.refl _ _)).trans hSW) x0.out; go_simp; (try with_reducible rfl)
   refine' tkE 5 22 hS ?_ ?_; rotate_left
   ·intro W' hSW; go_simp; (try with_reducible rfl)
   refine' tkE 6 23 hS ?_ ?_; rotate_left
   ·intro W' hSW; go_simp; (try with_reducible rfl)
   refine' tkE 7 24 hS ?_ ?_; rotate_left
   ·intro W' hSW; go_simp; (try with_reducible rfl)
   refine' tkE 8 25 hS ?_ ?_; rotate_left
   ·intro W' hSW; go_simp; (try with_reducible rfl)
   refine' tkE 9 26 hS ?_ ?_; rotate_left
   ·intro W' hSW; have k0:=pw_cell_below ((below_drew (Below.refl _ _)).trans hSW) y0.out; go_simp; (try with_reducible rfl)
   refine' tkE 10 27 hS ?_ ?_; rotate_left
   ·intro W' hSW; go_simp; (try with_reducible rfl)
   refine' tkE 11 28 hS ?_ ?_; rotate_left
   ·intro W' hSW; go_simp; (try with_reducible rfl)
   refine' tkE 12 29 hS ?_ ?_; rotate_left
   ·intro W' hSW; go_simp; (try with_reducible rfl)
   refine' tkE 13 30 hS ?_ ?_; rotate_left
   ·intro W' hSW; go_simp; (try with_reducible rfl)
   refine' tkE 14 31 hS ?_ ?_; rotate_left
   ·intro W' hSW; go_simp; (try with_reducible rfl)
   refine' tkE 15 32 hS ?_ ?_; rotate_left
   ·intro W' hSW; go_simp; (try with_reducible rfl)
   refine' tkE 16 33 hS ?_ ?_; rotate_left
   ·intro W' hSW; have k0:=pw_cell_below ((below_drew (Below.refl _ _)).trans hSW) x1.out; go_simp; (try with_reducible rfl)
   refine' tkE 17 34 hS ?_ ?_; rotate_left
   ·intro W' hSW; go_simp; (try with_reducible rfl)
   refine' tkE 18 35 hS ?_ ?_; rotate_left
   ·intro W' hSW; go_simp; (try with_reducible rfl)
   refine' tkE 19 36 hS ?_ ?_; rotate_left
   ·intro W' hSW; go_simp; (try with_reducible rfl)
   refine' tkE 20 37 hS ?_ ?_; rotate_left
   ·intro W' hSW; go_simp; (try with_reducible rfl)
   refine' tkE 21 38 hS ?_ ?_; rotate_left
   ·intro W' hSW; have k0:=pw_cell_below ((below_drew (Below.refl _ _)).trans hSW) y1.out; go_simp; (try with_reducible rfl)
   refine' tkE 22 39 hS ?_ ?_; rotate_left
   ·intro W' hSW; go_simp; (try with_reducible rfl)
   refine' tkE 23 40 hS ?_ ?_; rotate_left
   ·intro W' hSW; go_simp; (try with_reducible rfl)
   refine' tkE 24 41 hS ?_ ?_; rotate_left
   ·intro W' hSW; go_simp; (try with_reducible rfl)
   refine' tkE 25 42 hS ?_ ?_; rotate_left
   ·intro W' hSW; go_simp; (try with_reducible rfl)
   refine' tkE 26 43 hS ?_ ?_; rotate_left
   ·intro W' hSW; go_simp; (try with_reducible rfl)
   refine' tkE 27 44 hS ?_ ?_; rotate_left
   ·intro W' hSW; go_simp; (try with_reducible rfl)
   refine' tkE 28 45 hS ?_ ?_; rotate_left
   ·intro W' hSW; go_simp; (try with_reducible rfl)
   refine' tkE 29 46 hS ?_ ?_; rotate_left
   ·intro W' hSW; have k0:=pw_cell_below ((below_drew (Below.refl _ _)).trans hSW) x3.out; go_simp; (try with_reducible rfl)
   refine' tkE 30 47 hS ?_ ?_; rotate_left
   ·intro W' hSW; go_simp; (try with_reducible rfl)
   refine' tkE 31 48 hS ?_ ?_; rotate_left
   ·intro W' hSW; go_simp; (try with_reducible rfl)
   refine' tkE 32 49 hS ?_ ?_; rotate_left
   ·intro W' hSW; go_simp; (try with_reducible rfl)
   refine' tkE 33 50 hS ?_ ?_; rotate_left
   ·intro W' hSW; go_simp; (try with_reducible rfl)
   refine' tkE 34 51 hS ?_ ?_; rotate_left
   ·intro W' hSW; have k0:=pw_cell_below ((below_drew (Below.refl _ _)).trans hSW) y3.out; go_simp; (try with_reducible rfl)
   refine' tkE 35 52 hS ?_ ?_; rotate_left
   ·intro W' hSW; go_simp; (try with_reducible rfl)
   refine' tkE 36 53 hS ?_ ?_; rotate_left
   ·intro W' hSW; go_simp; (try with_reducible rfl)
   refine' tkE 37 54 hS ?_ ?_; rotate_left
   ·intro W' hSW; go_simp; (try with_reducible rfl)
   refine' tkE 38 55 hS ?_ ?_; rotate_left
   ·intro W' hSW; go_simp; (try with_reducible rfl)
   refine' tkE 39 56 hS ?_ ?_; rotate_left
   ·intro W' hSW; go_simp; (try with_reducible rfl)
   refine' tkE 40 57 hS ?_ ?_; rotate_left
   ·intro W' hSW; go_simp; (try with_reducible rfl)
   refine' tkE 41 58 hS ?_ ?_; rotate_left
   ·intro W' hSW; go_simp; (try with_reducible rfl)
   refine' tkE 42 59 hS ?_ ?_; rotate_left
   ·intro W' hSW; have k0:=pw_cell_below ((below_drew (Below.refl _ _)).trans hSW) x2.out; go_simp; (try with_reducible rfl)
   refine' tkE 43 60 hS ?_ ?_; rotate_left
   ·intro W' hSW; go_simp; (try with_reducible rfl)
   refine' tkE 44 61 hS ?_ ?_; rotate_left
   ·intro W' hSW; go_simp; (try with_reducible rfl)
   refine' tkE 45 62 hS ?_ ?_; rotate_left
   ·intro W' hSW; go_simp; (try with_reducible rfl)
   refine' tkE 46 63 hS ?_ ?_; rotate_left
   ·intro W' hSW; go_simp; (try with_reducible rfl)
   refine' tkE 47 64 hS ?_ ?_; rotate_left
   ·intro W' hSW; have k0:=pw_cell_below ((below_drew (Below.refl _ _)).trans hSW) y2.out; go_simp; (try with_reducible rfl)
   simp only [Act.put,List.setIfInBounds_toArray,List.set_cons_zero,List.set_cons_succ]
   refine wpAnyH_ready (rs:=[48]) (by kernel_rfl) (by simp) (AllReadyH.cons rfl (fun K hK => ?_) AllReadyH.nil)
   go_simp
   refine (hLn.out _ ((below_drew (Below.refl _ _)).trans hS)).mono ?_
   rintro e W2 ⟨rfl,hb⟩
   have hS:=hS.trans (hb.mono hS.size)
   clear hb
   refine hK.out _ _ hS (fun _ => ?_)
   clear hK K
   refine' tkE 49 66 hS ?_ ?_; rotate_left
   ·intro W' hSW; go_simp; (try with_reducible rfl)
   refine' tkE 50 67 hS ?_ ?_; rotate_left
   ·intro W' hSW; go_simp; (try with_reducible rfl)
   simp only [Act.put,List.setIfInBounds_toArray,List.set_cons_zero,List.set_cons_succ]
   refine wpAnyH_done (by kernel_rfl) ?_ _
   have HS2:=Aside0.mk (B1.out.drew.trans (hS.mono B1.out.drew.size))
   go_wp2
   go_roundg (l.length - (i + 1))
   case measure => omega
   case rel => exact ⟨i + 1,by first | rfl | (rw [hwi]),by omega,HS2⟩
  ·have hdb : decide ((i : Int) < (l.length : Int)) = false:=decide_eq_false (by omega)
   go_wp2
   go_ret
   exact ⟨rfl,B1.out⟩
set_option maxHeartbeats 8000000 in
set_option maxRecDepth 1000000 in
theorem sameP_at (x : S25) (A5 : Option Addr) (a5 : Nat) (A6 : Option Addr) (a6 : Nat) (B5 : Option Addr) (b5 : Nat) (B6 : Option Addr) (b6 : Nat) (w : World) (h : Okp x) (r1 : Rd w x A5 a5 A6 a6) (r2 : Rd w x B5 b5 B6 b6) :
  Calls Tryz.prog 86 #[.agg #[.int .i64 x.f0,.string x.f1,.string x.f2,.string x.f3,.int .i64 x.f4,.slice A5 x.f5.length a5,.slice A6 x.f6.length a6],.agg #[.int .i64 x.f0,.string x.f1,.string x.f2,.string x.f3,.int .i64 x.f4,.slice B5 x.f5.length b5,.slice B6 x.f6.length b6]] w fun e w' => e = .returned (.bool true) ∧ Below w.heap.size w w':=by
 have x1:=box1 w (.cells #[.int .i64 x.f0,.string x.f1,.string x.f2,.string x.f3,.int .i64 x.f4,.slice A5 x.f5.length a5,.slice A6 x.f6.length a6] 25) (.cells #[.int .i64 x.f0,.string x.f1,.string x.f2,.string x.f3,.int .i64 x.f4,.slice B5 x.f5.length b5,.slice B6 x.f6.length b6] 25)
 have x2:=box2 w (.cells #[.int .i64 x.f0,.string x.f1,.string x.f2,.string x.f3,.int .i64 x.f4,.slice A5 x.f5.length a5,.slice A6 x.f6.length a6] 25) (.cells #[.int .i64 x.f0,.string x.f1,.string x.f2,.string x.f3,.int .i64 x.f4,.slice B5 x.f5.length b5,.slice B6 x.f6.length b6] 25)
 have hB : Below w.heap.size w ((w.alloc (.cells #[.int .i64 x.f0,.string x.f1,.string x.f2,.string x.f3,.int .i64 x.f4,.slice A5 x.f5.length a5,.slice A6 x.f6.length a6] 25)).alloc (.cells #[.int .i64 x.f0,.string x.f1,.string x.f2,.string x.f3,.int .i64 x.f4,.slice B5 x.f5.length b5,.slice B6 x.f6.length b6] 25)):=below_alloc (below_alloc (Below.refl _ _) _) _
 have hq0 : (x.f0 == x.f0) = true:=by simp
 have hq4 : (x.f4 == x.f4) = true:=by simp
 have hqt : ∀ s : ByteArray,(s.toList == s.toList) = true:=fun s => by simp
 have h1:=hqt x.f1
 have h2:=hqt x.f2
 have h3:=hqt x.f3
 have hS:=fun U (hU : Below w.heap.size w U) => same05_at x.f5 h.ok.1 A5 a5 B5 b5 U (Kd.C_below r1.g5 hU) r1.l5 (Kd.C_below r2.g5 hU) r2.l5
 have hT:=fun U (hU : Below w.heap.size w U) => same05_at x.f6 h.ok.2 A6 a6 B6 b6 U (Kd.C_below r1.g6 hU) r1.l6 (Kd.C_below r2.g6 hU) r2.l6
 clear hqt h r1 r2
 go_enter Tryz.func86,Tryz.ntmps86
 go_upto_region 1 with (fail)
 obtain ⟨u,hu⟩ : ∃ u,(w.alloc (.cells #[.int .i64 x.f0,.string x.f1,.string x.f2,.string x.f3,.int .i64 x.f4,.slice A5 x.f5.length a5,.slice A6 x.f6.length a6] 25)).alloc (.cells #[.int .i64 x.f0,.string x.f1,.string x.f2,.string x.f3,.int .i64 x.f4,.slice B5 x.f5.length b5,.slice B6 x.f6.length b6] 25) = u:=⟨_,rfl⟩
 rw [hu] at x1 x2 hB ⊢
 clear hu
 obtain ⟨a0,a1,a2,a3,a4,a5',a6'⟩:=cells7 x1
 obtain ⟨b0,b1,b2,b3,b4,b5',b6'⟩:=cells7 x2
 have hS1:=hS u hB
 clear hS
 go_wp2_with (fail)
 refine hS1.mono ?_
 rintro e w1 ⟨rfl,hb1⟩
 clear a0 a1 a2 a3 a4 a5' a6' b0 b1 b2 b3 b4 b5' b6'
 have y1:=blk_below x1 hb1
 have y2:=blk_below x2 hb1
 have hB1:=hB.trans (hb1.mono hB.size)
 obtain ⟨a0,a1,a2,a3,a4,a5',a6'⟩:=cells7 y1
 obtain ⟨b0,b1,b2,b3,b4,b5',b6'⟩:=cells7 y2
 have hT1:=hT w1 hB1
 clear hT hb1 x1 x2 hB
 go_wp2_with (fail)
 refine hT1.mono ?_
 rintro e w2 ⟨rfl,hb2⟩
 clear a0 a1 a2 a3 a4 a5' a6' b0 b1 b2 b3 b4 b5' b6'
 go_wp2
 go_ret
 exact ⟨rfl,hB1.trans (hb2.mono hB1.size)⟩
set_option maxHeartbeats 8000000 in
set_option maxRecDepth 1000000 in
theorem sameLP_at (l : List S25) (hn : l.length ≤ 1000000000) (hx : ∀ x ∈ l,Okp x) (A : Option Addr) (c : Nat) (B : Option Addr) (d : Nat) (w : World) (h0 : Kd.C k25 w A l.length l) (h2 : Kd.C k25 w B l.length l) :
  Calls Tryz.prog 48 #[.slice A l.length c,.slice B l.length d] w fun e w' => e = .returned (.bool true) ∧ Below w.heap.size w w':=by
 have HA:=Aside0.mk h0
 have HB:=Aside0.mk h2
 have HX:=Aside0.mk hx
 have HN:=Aside0.mk hn
 have B0 : Aside0 (Below w.heap.size w w):=⟨Below.refl _ _⟩
 clear h0 h2 hx
 go_enter Tryz.func48,Tryz.ntmps48
 go_wp2
 go_loopg [5] l.length (fun kx s5 wr => ∃ i : Nat,s5 = .int .i64 i ∧ i + kx = l.length ∧ Aside0 (Below w.heap.size w wr))
 case atStart => exact ⟨0,rfl,by omega,B0⟩
 case round =>
  clear B0
  obtain ⟨i,rfl,hi,B1⟩:=hrel
  by_cases hlt : i < l.length
  ·have hi0 : (0 : Int) ≤ (i : Int):=by omega
   have hi1 : (i : Int) < (l.length : Int):=by omega
   have hdb : decide ((i : Int) < (l.length : Int)) = true:=decide_eq_true hi1
   have hwi : IntKind.i64.wrap ((i : Int) + 1) = ((i + 1 : Nat) : Int):=by rw [wrap_small _ (by omega) (by omega)]; omega
   obtain ⟨ad,A5,a5,A6,a6,hP,x0,x1,x2,x3,x4,x5,x6,l5,g5,l6,g6⟩:=at_T25 (Kd.C_below HA.out B1.out) (i : Int) hi0 hi1
   obtain ⟨bd,B5,b5,B6,b6,hQ,y0,y1,y2,y3,y4,y5,y6,m5,j5,m6,j6⟩:=at_T25 (Kd.C_below HB.out B1.out) (i : Int) hi0 hi1
   have hrd : rd_T25 l (i : Int) = l[i]:=by unfold rd_T25; rw [Int.toNat_natCast,List.getD_eq_getElem?_getD,List.getElem?_eq_getElem hlt]; rfl
   have hok:=HX.out _ (List.getElem_mem hlt)
   rw [hrd] at x0 x1 x2 x3 x4 x5 x6 l5 g5 l6 g6 y0 y1 y2 y3 y4 y5 y6 m5 j5 m6 j6
   rw [Int.toNat_natCast] at x0 x1 x2 x3 x4 x5 x6 y0 y1 y2 y3 y4 y5 y6
   obtain ⟨x,hxx⟩ : ∃ x,l[i] = x:=⟨_,rfl⟩
   rw [hxx] at x0 x1 x2 x3 x4 x5 x6 l5 g5 l6 g6 y0 y1 y2 y3 y4 y5 y6 m5 j5 m6 j6 hok
   subst hP
   subst hQ
   have hSm : ∀ U,Below wr.heap.size wr U → Calls Tryz.prog 86 #[.agg #[.int .i64 x.f0,.string x.f1,.string x.f2,.string x.f3,.int .i64 x.f4,.slice A5 x.f5.length a5,.slice A6 x.f6.length a6],.agg #[.int .i64 x.f0,.string x.f1,.string x.f2,.string x.f3,.int .i64 x.f4,.slice B5 x.f5.length b5,.slice B6 x.f6.length b6]] U fun e w' => e = .returned (.bool true) ∧ Below U.heap.size U w':=fun U hU => sameP_at x A5 a5 A6 a6 B5 b5 B6 b6 U hok (Rd.below ⟨g5,l5,g6,l6⟩ hU) (Rd.below ⟨j5,m5,j6,m6⟩ hU)
   have P0:=Aside0.mk (And.intro x0 (And.intro x1 (And.intro x2 (And.intro x3 (And.intro x4 (And.intro x5 x6))))))
   have P1:=Aside0.mk (And.intro y0 (And.intro y1 (And.intro y2 (And.intro y3 (And.intro y4 (And.intro y5 y6))))))
   replace hSm:=Aside0.mk hSm
   clear x0 x1 x2 x3 x4 x5 x6 l5 g5 l6 g6 y0 y1 y2 y3 y4 y5 y6 m5 j5 m6 j6 hok hrd hxx
   go_upto_region 6 with (fail)
   refine wp_region_held_drew (S:=fun W => Below wr.heap.size wr W) (by kernel_rfl) (below_drew (Below.refl _ _)) (fun _ => ?_)
   have hS : Below wr.heap.size wr (World.drew wr):=below_drew (Below.refl _ _)
   generalize World.drew wr = W at hS ⊢
   refine' tkE 0 17 hS ?_ ?_; rotate_left
   ·intro W' hSW; go_simp; (try with_reducible rfl)
   refine' tkE 1 18 hS ?_ ?_; rotate_left
   ·intro W' hSW; go_simp; (try with_reducible rfl)
   refine' tkE 2 19 hS ?_ ?_; rotate_left
   ·intro W' hSW; go_simp; (try with_reducible rfl)
   refine' tkE 3 20 hS ?_ ?_; rotate_left
   ·intro W' hSW; have q0:=pw_cell_below hSW P0.out.1; have q1:=pw_cell_below hSW P0.out.2.1; have q2:=pw_cell_below hSW P0.out.2.2.1; have q3:=pw_cell_below hSW P0.out.2.2.2.1; have q4:=pw_cell_below hSW P0.out.2.2.2.2.1; have q5:=pw_cell_below hSW P0.out.2.2.2.2.2.1; have q6:=pw_cell_below hSW P0.out.2.2.2.2.2.2; go_simp; (try with_reducible rfl)
   refine' tkE 4 21 hS ?_ ?_; rotate_left
   ·intro W' hSW; go_simp; (try with_reducible rfl)
   refine' tkE 5 22 hS ?_ ?_; rotate_left
   ·intro W' hSW; go_simp; (try with_reducible rfl)
   refine' tkE 6 23 hS ?_ ?_; rotate_left
   ·intro W' hSW; go_simp; (try with_reducible rfl)
   refine' tkE 7 24 hS ?_ ?_; rotate_left
   ·intro W' hSW; have q0:=pw_cell_below hSW P1.out.1; have q1:=pw_cell_below hSW P1.out.2.1; have q2:=pw_cell_below hSW P1.out.2.2.1; have q3:=pw_cell_below hSW P1.out.2.2.2.1; have q4:=pw_cell_below hSW P1.out.2.2.2.2.1; have q5:=pw_cell_below hSW P1.out.2.2.2.2.2.1; have q6:=pw_cell_below hSW P1.out.2.2.2.2.2.2; go_simp; (try with_reducible rfl)
   simp only [Act.put,List.setIfInBounds_toArray,List.set_cons_zero,List.set_cons_succ]
   refine wpAnyH_ready (rs:=[8]) (by kernel_rfl) (by simp) (AllReadyH.cons rfl (fun K hK => ?_) AllReadyH.nil)
   go_simp
   refine (hSm.out _ hS).mono ?_
   rintro e W2 ⟨rfl,hb⟩
   replace hS:=hS.trans (hb.mono hS.size)
   refine hK.out _ _ hS (fun _ => ?_)
   clear hK K hb
   refine' tkE 9 26 hS ?_ ?_; rotate_left
   ·intro W' hSW; go_simp; (try with_reducible rfl)
   simp only [Act.put,List.setIfInBounds_toArray,List.set_cons_zero,List.set_cons_succ]
   refine wpAnyH_done (by kernel_rfl) ?_ _
   replace hS:=Aside0.mk hS
   go_wp2
   go_roundg (l.length - (i + 1))
   case measure => omega
   case rel => exact ⟨i + 1,by first | rfl | (rw [hwi]),by omega,⟨B1.out.trans (hS.out.mono B1.out.size)⟩⟩
  ·have hdb : decide ((i : Int) < (l.length : Int)) = false:=decide_eq_false (by omega)
   go_wp2
   go_ret
   exact ⟨rfl,B1.out⟩
end Go.Proofs.YthhohbidjhcjeaaGreatDoor.H
