/- What the reference's put makes of a tree in which the thing is: it is another one. -/
import Derived.Test.YthhohbidjhcjeaaGreatDoorEM7
import Derived.Test.YthhohbidjhcjeaaGreatDoorEM4
import Derived.Test.YthhohbidjhcjeaaGreatDoorEM5
import Derived.Test.YthhohbidjhcjeaaGreatDoorEM6
namespace Go.Proofs.YthhohbidjhcjeaaGreatDoor.H
open Go.Proofs.YthhohbidjhcjeaaGreatDoorW.PrintWords Go.Proofs.YthhohbidjhcjeaaGreatDoor.Q Go.Proofs.YthhohbidjhcjeaaGreatDoor.Pl
theorem insR_set : ∀ {l : List S41} {y : S41},Srt l → ∀ (i : Nat) (hi : i < l.length),l[i].f0 = y.f0 → insR y (l.eraseIdx i) = l.set i y
 | [],_,_,i,hi,_ => absurd hi (Nat.not_lt_zero _)
 | x :: r,y,hs,0,_,e => by
  have h:=(srt_cons.1 hs).1
  show insR y r = y :: r
  cases r with
  | nil => rfl
  | cons z r =>
   have hz:=h z (List.mem_cons_self)
   rw [show x.f0 = y.f0 from e] at hz
   unfold insR
   rw [if_pos hz]
 | x :: r,y,hs,i + 1,hi,e => by
  have h:=srt_cons.1 hs
  have hi' : i < r.length:=by rw [List.length_cons] at hi; omega
  have hxy : ltP x.f0 y.f0 = true:=by
   have h2:=h.1 _ (List.getElem_mem hi')
   rw [show r[i].f0 = y.f0 from e] at h2
   exact h2
  show insR y (x :: r.eraseIdx i) = x :: r.set i y
  unfold insR
  rw [if_neg (by rw [ltP_asymm hxy]; decide),insR_set h.2 i hi' e]
theorem filter_srt {l : List S41} (hs : Srt l) (f : S41 → Bool) : Srt (l.filter f):=List.Pairwise.filter _ hs
theorem put_set {l : List S41} {y : S41} (hs : Srt l) {i : Nat} (hi : i < l.length) (e : (l.getD i z41).f0 = y.f0) : sortR (l.filter (outB y.f0) ++ [y]) = setL l y.f0 y:=by
 unfold sortR
 rw [List.foldl_append]
 show insR y (sortR (l.filter (outB y.f0))) = _
 rw [sortR_srt _ (filter_srt hs _)]
 have e2 : l[i].f0 = y.f0:=by rw [getD_get hi] at e; exact e
 rw [show l.filter (outB y.f0) = l.eraseIdx i by rw [← e2]; exact filter_erase hs i hi,insR_set hs i hi e2]
 unfold setL
 rw [← e,(low_at hs hi).1]
theorem put_new {l : List S41} {y : S41} (hs : Srt l) (hx : ∀ z ∈ l,z.f0 ≠ y.f0) : sortR (l.filter (outB y.f0) ++ [y]) = insL l y:=by
 rw [List.filter_eq_self.2 (fun z hz => (out_iff _ _).2 (hx z hz))]
 exact sortR_put hs hx
set_option linter.unusedVariables false
set_option linter.unusedSimpArgs false
theorem srt_dis {l : List S41} (h : Srt l) : Dis l:=List.Pairwise.imp (fun h => ltP_ne h) h
theorem sortR_go : ∀ (r o : List S41),Srt o → Dis (o ++ r) → Srt (r.foldl (fun o x => insR x o) o) ∧ ∀ z,z ∈ r.foldl (fun o x => insR x o) o ↔ z ∈ o ++ r
 | [],o,ho,_ => ⟨ho,fun z => by rw [List.append_nil]; exact Iff.rfl⟩
 | x :: r,o,ho,hd => by
  obtain ⟨d1,d2,d3⟩:=List.pairwise_append.1 hd
  have hx : ∀ y ∈ o,y.f0 ≠ x.f0:=fun y hy => d3 y hy x (List.mem_cons_self)
  rw [List.foldl_cons,insR_insL ho hx]
  obtain ⟨c1,c2⟩:=List.pairwise_cons.1 d2
  have hs:=ins_srt ho (find_none.2 hx)
  have hd2 : Dis (insL o x ++ r):=List.pairwise_append.2 ⟨srt_dis hs,c2,fun a ha b hb => by
   rcases ins_mem.1 ha with e | ha
   ·rw [e]; exact c1 b hb
   ·exact d3 a ha b (List.mem_cons_of_mem _ hb)⟩
  obtain ⟨g1,g2⟩:=sortR_go r (insL o x) hs hd2
  refine ⟨g1,fun z => ?_⟩
  rw [g2 z,List.mem_append,ins_mem,List.mem_append,List.mem_cons]
  constructor
  ·rintro ((h | h) | h)
   ·exact .inr (.inl h)
   ·exact .inl h
   ·exact .inr (.inr h)
  ·rintro (h | h | h)
   ·exact .inl (.inr h)
   ·exact .inl (.inl h)
   ·exact .inr h
theorem sortR_sortV {l : List S41} (h : Dis l) : sortR l = sortV l:=by
 obtain ⟨g1,g2⟩:=sortR_go l [] List.Pairwise.nil h
 exact sort_uniq h g1 (fun z => by have:=g2 z; rwa [List.nil_append] at this)
def childB (s : ByteArray) (x : S41) : Bool:=match parentV x.f0 with
 | none => s.toList == []
 | some q => (s.toList != []) && (q.toList == s.toList)
theorem toL_ne {s : ByteArray} (hs : s ≠ e0) : (s.toList == []) = false:=by
 rw [beq_eq_false_iff_ne]
 intro h
 have hl:=size_toList s
 rw [h] at hl
 exact hs (data_inj (List.eq_nil_of_length_eq_zero (by rw [dlen]; simpa using hl.symm)))
theorem child_iff {s : ByteArray} (hs : s ≠ e0) (x : S41) : childB s x = true ↔ parentV x.f0 = some s:=by
 unfold childB
 cases hp : parentV x.f0 with
 | none => simp [toL_ne hs]
 | some q =>
  simp only [bne,toL_ne hs,Bool.not_false,Bool.true_and,beq_iff_eq]
  exact ⟨fun h => by rw [toList_inj h],fun h => by rw [Option.some.inj h]⟩
theorem Tr.child {l : List S41} (h : Tr l) {s : ByteArray} (hs : s ≠ e0) : ∀ (n : Nat) (x : S41),x ∈ l → x.f0.size ≤ n → insideB x.f0 s = true → l.any (childB s) = true
 | 0,x,hx,hn,hi => by
  obtain ⟨h1,h2⟩:=(inside_iff _ _).1 hi
  obtain ⟨p,hp,_⟩:=within_parent h2 h1
  have:=parentV_size hp
  omega
 | n + 1,x,hx,hn,hi => by
  obtain ⟨h1,h2⟩:=(inside_iff _ _).1 hi
  obtain ⟨p,hp,hw⟩:=within_parent h2 h1
  have hz:=parentV_size hp
  by_cases k : p = s
  ·rw [k] at hp
   exact List.any_eq_true.2 ⟨x,hx,(child_iff hs x).2 hp⟩
  ·obtain ⟨y,hy,e,_⟩:=h.p x hx p hp
   exact h.child hs n y hy (by rw [e]; omega) ((inside_iff _ _).2 ⟨by rw [e]; exact k,by rw [e]; exact hw⟩)
theorem Tr.children {l : List S41} (h : Tr l) {s : ByteArray} (hs : s ≠ e0) : l.any (childB s) = l.any (fun x => insideB x.f0 s):=by
 rw [Bool.eq_iff_iff]
 constructor
 ·intro hc
  obtain ⟨x,hx,hk⟩:=List.any_eq_true.1 hc
  have hp:=(child_iff hs x).1 hk
  exact List.any_eq_true.2 ⟨x,hx,(inside_iff _ _).2 ⟨(ltP_ne (parent_lt hp)).symm,parent_within hp⟩⟩
 ·intro hc
  obtain ⟨x,hx,hk⟩:=List.any_eq_true.1 hc
  exact h.child hs x.f0.size x hx (Nat.le_refl _) hk
open Go.RowKit Go.Shelf Go.Proofs.YthhohbidjhcjeaaGreatDoorW.PrintWords Go.Proofs.YthhohbidjhcjeaaGreatDoorW.PrintLast Go.Proofs.YthhohbidjhcjeaaGreatDoorW.PrintMore
open Go.Proofs.YthhohbidjhcjeaaGreatDoor.Q Go.Proofs.YthhohbidjhcjeaaGreatDoor.Pl
theorem childB_none {s : ByteArray} {x : S41} (hs : (s.toList == []) = false) (h : parentV x.f0 = none) : childB s x = false:=by
 unfold childB; rw [h]; exact hs
theorem childB_some {s q : ByteArray} {x : S41} (hs : (s.toList == []) = false) (h : parentV x.f0 = some q) : childB s x = (q.toList == s.toList):=by
 unfold childB; rw [h]; simp only [bne,hs,Bool.not_false,Bool.true_and]
set_option maxHeartbeats 4000000 in
set_option maxRecDepth 1000000 in
theorem childrenR_at (l : List S41) (A : Option Addr) (c : Nat) (s : ByteArray) (w : World) (hr : Kd.C k41 w A l.length l) (hc : l.length ≤ c) (hn : l.length ≤ 1000000000) (hz : ∀ x ∈ l,x.f0.size ≤ 140737488355328) (hs : s ≠ e0) :
  Calls Tryz.prog 63 #[.slice A l.length c,.string s] w fun e w' => ∃ v,e = .returned v ∧ Kd.N k41 41 w' w.heap.size (fun _ => True) v (l.filter (childB s)) ∧ Below w.heap.size w w':=by
 have HR:=Aside0.mk hr
 have HC:=Aside0.mk hc
 have HN:=Aside0.mk hn
 have HZ:=Aside0.mk hz
 have hse:=toL_ne hs
 have hsn : (s.toList != []) = true:=by simp only [bne,hse,Bool.not_false]
 have B0 : Aside0 (Below w.heap.size w w):=⟨Below.refl _ _⟩
 have N0 : Aside0 (Kd.N k41 41 w w.heap.size (fun _ => True) (.slice none 0 0) ((l.take 0).filter (childB s))):=⟨Kd.N_nil _ _ _ _ _⟩
 clear hr hc hs hz
 go_enter Tryz.func63,Tryz.ntmps63
 go_wp2
 go_loopg [5,6] l.length (fun kx s5 s6 wr => ∃ (i : Nat) (v : Value),v = s5 ∧ s6 = .int .i64 i ∧ i + kx = l.length ∧ Aside0 (Below w.heap.size w wr) ∧ Aside0 (Kd.N k41 41 wr w.heap.size (fun _ => True) v ((l.take i).filter (childB s))))
 case atStart => exact ⟨0,_,rfl,rfl,by omega,B0,N0⟩
 case round =>
  clear B0 N0
  obtain ⟨i,v,rfl,rfl,hi,B1,N1⟩:=hrel
  by_cases hlt : i < l.length
  ·have hi0 : (0 : Int) ≤ (i : Int):=by omega
   have hi1 : (i : Int) < (l.length : Int):=by omega
   have hdb : decide ((i : Int) < (l.length : Int)) = true:=decide_eq_true hi1
   have hwi : IntKind.i64.wrap ((i : Int) + 1) = ((i + 1 : Nat) : Int):=by rw [wrap_small _ (by omega) (by omega)]; omega
   obtain ⟨ad,X,d,rfl,rx,q0,q1,q2,q3⟩:=ent_at HR.out i hlt rfl
   obtain ⟨x,hx⟩ : ∃ x,l.getD i z41 = x:=⟨_,rfl⟩
   rw [hx] at rx q0 q1 q2 q3
   have hxi : l[i] = x:=by rw [← hx,getD_get hlt]
   have hxz : x.f0.size ≤ 140737488355328:=HZ.out x (by rw [← hxi]; exact List.getElem_mem hlt)
   replace q0:=pw_cell_below B1.out q0
   have Q1:=Aside0.mk (pw_cell_below B1.out q1)
   have Q2:=Aside0.mk (pw_cell_below B1.out q2)
   have Q3:=Aside0.mk (pw_cell_below B1.out q3)
   have Q0:=Aside0.mk q0
   have hfm:=filter_more hlt (childB s)
   rw [hxi] at hfm
   have hfs:=Aside0.mk (filter_small l i (childB s))
   have hFK:=Aside0.mk (k41_mkF wr (fun k => k < w.heap.size) x rx.l (Kd.F_below (Kd.C_F Kd.heap_string rx.g) B1.out))
   have hP:=parentR_at x.f0 hxz wr
   clear hx hxi rx hxz q1 q2 q3
   cases hp : parentV x.f0 with
   | none =>
    rw [childB_none hse hp] at hfm
    rw [hp] at hP
    replace hfm:=Aside0.mk hfm
    replace hP : Calls Tryz.prog 35 #[.string x.f0] wr fun e w' => e = .returned (.tuple #[.string ⟨#[]⟩,.bool false]) ∧ Below wr.heap.size wr w':=hP
    clear hp
    go_upto_region 6 with (go_at_call 35; refine hP.mono ?_; rintro e w2 ⟨rfl,hb⟩)
    have B2:=Aside0.mk (B1.out.trans (hb.mono B1.out.size))
    have N2:=Aside0.mk (Kd.N_below N1.out hb)
    clear hb q0 Q0 hP
    go_wp2
    go_roundg (l.length - (i + 1))
    case measure => omega
    case rel => exact ⟨i + 1,_,rfl,by first | rfl | (rw [hwi]),by omega,B2,⟨by rw [hfm.out]; simpa using N2.out⟩⟩
   | some q =>
    rw [childB_some hse hp] at hfm
    rw [hp] at hP
    replace hP : Calls Tryz.prog 35 #[.string x.f0] wr fun e w' => e = .returned (.tuple #[.string q,.bool true]) ∧ Below wr.heap.size wr w':=hP
    clear hp
    go_upto_region 6 with (go_at_call 35; refine hP.mono ?_; rintro e w2 ⟨rfl,hb⟩)
    have B2:=Aside0.mk (B1.out.trans (hb.mono B1.out.size))
    have N2:=Aside0.mk (Kd.N_below N1.out hb)
    have hF2:=Aside0.mk (Kd.FK_below hFK.out hb)
    have q0':=pw_cell_below hb Q0.out
    have q1':=pw_cell_below hb Q1.out
    have q2':=pw_cell_below hb Q2.out
    have q3':=pw_cell_below hb Q3.out
    clear hb q0 hP
    cases hqs : (q.toList == s.toList) with
    | false =>
     rw [hqs] at hfm
     replace hfm:=Aside0.mk hfm
     clear q0' q1' q2' q3'
     go_wp2
     go_roundg (l.length - (i + 1))
     case measure => omega
     case rel => exact ⟨i + 1,_,rfl,by first | rfl | (rw [hwi]),by omega,B2,⟨by rw [hfm.out]; simpa using N2.out⟩⟩
    | true =>
     rw [hqs,if_pos rfl] at hfm
     replace hfm:=Aside0.mk hfm
     have okp : Aside0 (∀ k,k < w.heap.size → True ∧ some k ≠ v.ownBlock):=⟨fun k hk => ⟨trivial,fun e => absurd (Kd.N_base N2.out k e.symm) (by omega)⟩⟩
     go_wp2_with (((with_reducible refine gate_builtin (b:=.append) (xs:=#[.tmp 42,.tmp 47]) rfl ?_); at_builtin; refine Kd.N_append k41 (w0:=w) w.heap.size rfl (.tmp 42) (.tmp 47) 22 41 (.agg #[(.string ⟨#[]⟩),(.int .i64 0),(.slice none 0 0),(.string ⟨#[]⟩)]) 64 rfl Tryz.underlying22 info41 rfl (by decide) (by omega) v ((l.take i).filter (childB s)) x [.string x.f0,.int .i64 x.f1,.slice X x.f2.length d,.string x.f3] (fun _ => True) (fun k => k < w.heap.size) rfl rfl ?aP ?aK (fun _ _ => trivial) ?aO ?aB ?aS ?aL ?_; (case aP => exact hF2.out); (case aK => exact okp.out); (case aO => exact N2.out); (case aB => exact B2.out); (case aS => exact B2.out.size); (case aL => have:=hfs.out; have:=HN.out; omega); intro v1 y1 hN1 hB1 hg_ hat_; replace hN1:=Aside0.mk hN1; replace hB1:=Aside0.mk hB1; clear hg_ hat_))
     go_roundg (l.length - (i + 1))
     case measure => omega
     case rel => exact ⟨i + 1,_,rfl,by first | rfl | (rw [hwi]),by omega,hB1,⟨by rw [hfm.out]; exact hN1.out⟩⟩
  ·have hdb : decide ((i : Int) < (l.length : Int)) = false:=decide_eq_false (by omega)
   have hall : Aside0 (l.take i = l):=⟨List.take_of_length_le (by omega)⟩
   go_wp2
   go_ret
   exact ⟨_,rfl,by have:=N1.out; rwa [hall.out] at this,B1.out⟩
theorem lgetD {l : List UInt8} {i : Nat} (h : i < l.length) : l.getD i 0 = l[i]:=by rw [List.getD_eq_getElem?_getD,List.getElem?_eq_getElem h,Option.getD_some]
structure TkI (s : ByteArray) (pre : List ByteArray) (i fr : Nat) : Prop where
 e : pre ++ (runs (s.data.toList.drop fr)).map (fun r => (⟨r.toArray⟩ : ByteArray)) = piecesV s
 l : s.size < i → fr = s.size
 f : fr ≤ s.size
 u : ∀ j,fr ≤ j → j < i → inU (s.data.toList.getD j 0) = inU (s.data.toList.getD fr 0)
theorem tk_start (s : ByteArray) : TkI s [] 1 0 :=
 ⟨by rw [List.nil_append,List.drop_zero]; rfl,fun h => by omega,Nat.zero_le _,fun j _ h => by rw [show j = 0 by omega]⟩
theorem tk_same {s : ByteArray} {pre : List ByteArray} {i fr : Nat} (h : TkI s pre i fr) (hi : i < s.size) (he : inU (s.data.toList.getD i 0) = inU (s.data.toList.getD fr 0)) : TkI s pre (i + 1) fr :=
 ⟨h.e,fun k => by omega,h.f,fun j h1 h2 => by
  rcases Nat.lt_or_ge j i with k | k
  ·exact h.u j h1 k
  ·rw [show j = i by omega]; exact he⟩
theorem tk_cut {s : ByteArray} {pre : List ByteArray} {i fr : Nat} (h : TkI s pre i fr) (hf : fr < i) (hi : i ≤ s.size) (hd : i < s.size → inU (s.data.toList.getD i 0) ≠ inU (s.data.toList.getD fr 0)) : TkI s (pre ++ [s.extract fr i]) (i + 1) i:=by
 have hl : s.data.toList.length = s.size:=dlen s
 refine ⟨?_,fun k => by omega,hi,fun j h1 h2 => by rw [show j = i by omega]⟩
 have hr:=runs_head (s:=s.data.toList.drop fr) (n:=i - fr) (b:=inU (s.data.toList.getD fr 0)) (by omega) (by rw [List.length_drop]; omega) (fun c hc => by
  obtain ⟨j,hj,rfl⟩:=List.getElem_of_mem hc
  rw [List.length_take,List.length_drop] at hj
  rw [List.getElem_take,List.getElem_drop]
  have:=h.u (fr + j) (by omega) (by omega)
  rwa [lgetD (by omega)] at this) (fun c hc => by
  rw [List.getElem?_drop,show fr + (i - fr) = i by omega] at hc
  obtain ⟨k1,k2⟩:=List.getElem?_eq_some_iff.1 hc
  have:=hd (by omega)
  rw [lgetD k1,k2] at this
  exact this)
 rw [List.drop_drop,show fr + (i - fr) = i by omega] at hr
 rw [← h.e,hr,List.map_cons,List.append_assoc,List.singleton_append]
 congr 2
 exact data_inj (by rw [extract_data,List.drop_take])
theorem tk_end {s : ByteArray} {pre : List ByteArray} {i fr : Nat} (h : TkI s pre i fr) (hi : s.size < i) : pre = piecesV s:=by
 have e:=h.e
 rw [h.l hi,List.drop_of_length_le (by rw [dlen]; exact Nat.le_refl _)] at e
 simpa [runs] using e
theorem piecesV_len (s : ByteArray) : (piecesV s).length ≤ s.size:=by
 rw [← piecesP_fst,List.length_map]
 exact piecesP_len s
theorem tk_len {s : ByteArray} {pre : List ByteArray} {i fr : Nat} (h : TkI s pre i fr) : pre.length ≤ s.size:=by
 have e:=congrArg List.length h.e
 rw [List.length_append] at e
 have:=piecesV_len s
 omega
set_option maxHeartbeats 4000000 in
set_option maxRecDepth 1000000 in
theorem tokensR_at (s : ByteArray) (w : World) (hs : s.size ≤ 1000000000) :
  Calls Tryz.prog 109 #[.string s] w fun e w' => ∃ v,e = .returned v ∧ Kd.R Kd.string 9 w' w.heap.size (fun _ => True) v (piecesV s) ∧ Below w.heap.size w w':=by
 have HS:=Aside0.mk hs
 have hIn : ∀ (c : UInt8) (U : World),Calls Tryz.prog 117 #[.int .u8 (c.toNat : Int)] U fun e w' => e = .returned (.bool (inU c)) ∧ Drawn0 U w':=fun c U => counterpaneref05_in.calls _ _ U (refIn_f _ (UInt8.toNat_lt _))
 have B0 : Aside0 (Below w.heap.size w w):=⟨Below.refl _ _⟩
 have N0 : Aside0 (Kd.R Kd.string 9 w w.heap.size (fun _ => True) (.slice none 0 0) []):=⟨Kd.R_nil _ _ _ _ _⟩
 have T0:=Aside0.mk (tk_start s)
 go_enter Tryz.func109,Tryz.ntmps109
 go_wp2
 go_loopg [3,4,5] s.size (fun kx s3 s4 s5 wr => ∃ (i fr : Nat) (v : Value) (pre : List ByteArray),v = s3 ∧ s4 = .int .i64 fr ∧ s5 = .int .i64 i ∧ i + kx = s.size + 1 ∧ fr < i ∧ Aside0 (Below w.heap.size w wr) ∧ Aside0 (Kd.R Kd.string 9 wr w.heap.size (fun _ => True) v pre) ∧ Aside0 (TkI s pre i fr))
 case atStart => exact ⟨1,0,_,[],rfl,rfl,rfl,by omega,by omega,B0,N0,T0⟩
 case round =>
  clear B0 N0 T0
  obtain ⟨i,fr,v,pre,rfl,rfl,rfl,hi,hfi,B1,N1,T1⟩:=hrel
  have hpl:=Aside0.mk (tk_len T1.out)
  by_cases hlt : i ≤ s.size
  ·have hdb : decide ((i : Int) ≤ (s.size : Int)) = true:=decide_eq_true (by omega)
   have hwi : IntKind.i64.wrap ((i : Int) + 1) = ((i + 1 : Nat) : Int):=by rw [wrap_small _ (by omega) (by omega)]; omega
   have hf0 : (0 : Int) ≤ (fr : Int):=by omega
   have hf1 : (fr : Int) < (s.size : Int):=by omega
   have hf2 : (fr : Int) ≤ (i : Int):=by omega
   have hi2 : (i : Int) ≤ (s.size : Int):=by omega
   have HD : Aside0 (Below w.heap.size w wr.drew ∧ Kd.R Kd.string 9 wr.drew w.heap.size (fun _ => True) v pre):=⟨below_drew B1.out,Kd.R_drew N1.out⟩
   obtain ⟨Av,cv,rfl⟩:=Kd.R_slice N1.out
   clear HD
   by_cases hie : i = s.size
   ·have hbe : ((i : Int) == (s.size : Int)) = true:=by rw [hie]; simp
    have T2:=Aside0.mk (tk_cut T1.out hfi hlt (fun h => by omega))
    clear hie
    go_wp2
    go_quiet (fail)
    go_wp2_with (((with_reducible refine gate_builtin (b:=.append) (xs:=#[.tmp 27,.tmp 32]) rfl ?_); at_builtin; refine Kd.R_append Kd.string (w0:=w) w.heap.size rfl (.tmp 27) (.tmp 32) 23 9 (.string ⟨#[]⟩) 16 rfl Tryz.underlying23 infoS rfl (by decide) (by omega) (.slice Av pre.length cv) pre (s.extract fr i) [.string (s.extract fr i)] (fun _ => True) (fun _ => False) rfl rfl ?aP (fun _ hk => hk.elim) ?aF ?aO ?aB ?aS ?aL ?_; (case aP => exact rfl); (case aB => exact pw_below_drewN B1.out _); (case aF => exact (fun _ _ => trivial)); (case aO => exact Kd.R_drewN N1.out _); (case aS => exact B1.out.size); (case aL => have:=hpl.out; have:=HS.out; omega); intro v1 y1 hN1 hB1 hg_ hat_; replace hN1:=Aside0.mk hN1; replace hB1:=Aside0.mk hB1; clear hg_ hat_))
    go_roundg (s.size + 1 - (i + 1))
    case measure => omega
    case rel => exact ⟨i + 1,i,_,_,rfl,rfl,by first | rfl | (rw [hwi]),by omega,by omega,hB1,hN1,T2⟩
   ·have hbe : ((i : Int) == (s.size : Int)) = false:=by rw [beq_eq_false_iff_ne]; omega
    have hi0 : (0 : Int) ≤ (i : Int):=by omega
    have hi1 : (i : Int) < (s.size : Int):=by omega
    have hlt2 : i < s.size:=by omega
    have gi : (s[i]'hlt2) = s.data.toList.getD i 0:=by rw [lgetD (by rw [dlen]; exact hlt2)]; rfl
    have gf : (s[fr]'(by omega)) = s.data.toList.getD fr 0:=by rw [lgetD (by rw [dlen]; omega)]; rfl
    obtain ⟨b,hb⟩ : ∃ b,inU (s.data.toList.getD i 0) = b:=⟨_,rfl⟩
    obtain ⟨d,hd⟩ : ∃ d,inU (s.data.toList.getD fr 0) = d:=⟨_,rfl⟩
    have I1 : ∀ U,Calls Tryz.prog 117 #[.int .u8 ((s[i]'hlt2).toNat : Int)] U fun e w' => e = .returned (.bool b) ∧ Drawn0 U w':=fun U => by have h:=hIn (s[i]'hlt2) U; rw [gi,hb] at h; rw [gi]; exact h
    have I2 : ∀ U,Calls Tryz.prog 117 #[.int .u8 ((s[fr]'(by omega)).toNat : Int)] U fun e w' => e = .returned (.bool d) ∧ Drawn0 U w':=fun U => by have h:=hIn (s[fr]'(by omega)) U; rw [gf,hd] at h; rw [gf]; exact h
    have TS : Aside0 (b = d → TkI s pre (i + 1) fr):=⟨fun h => tk_same T1.out hlt2 (by rw [hb,hd,h])⟩
    have TC : Aside0 (b ≠ d → TkI s (pre ++ [s.extract fr i]) (i + 1) i):=⟨fun h => tk_cut T1.out hfi hlt (fun _ => by rw [hb,hd]; exact h)⟩
    clear hb hd gi gf T1 hIn
    by_cases hbd : b = d
    ·have T2:=Aside0.mk (TS.out hbd)
     have hbn : (b == d) = true:=by rw [hbd]; simp
     clear TS TC hbd
     go_wp2
     go_quiet (first | (go_at_call 117; (with_reducible refine (I1 _).mono ?_); rintro e w' ⟨rfl,⟨nd,rfl⟩⟩; (try first | exact ⟨rfl,_,World.drewN_drewN _ _ _⟩ | exact ⟨rfl,_,Eq.trans (World.drewN_drewN _ _ _) (congrArg (World.drewN _) (Nat.add_assoc _ _ _))⟩)) | (go_at_call 117; (with_reducible refine (I2 _).mono ?_); rintro e w' ⟨rfl,⟨nd,rfl⟩⟩; (try first | exact ⟨rfl,_,World.drewN_drewN _ _ _⟩ | exact ⟨rfl,_,Eq.trans (World.drewN_drewN _ _ _) (congrArg (World.drewN _) (Nat.add_assoc _ _ _))⟩)))
     go_wp2
     go_roundg (s.size + 1 - (i + 1))
     case measure => omega
     case rel => exact ⟨i + 1,fr,_,pre,rfl,rfl,by first | rfl | (rw [hwi]),by omega,by omega,⟨pw_below_drewN B1.out _⟩,⟨Kd.R_drewN N1.out _⟩,T2⟩
    ·have T2:=Aside0.mk (TC.out hbd)
     have hbn : (b == d) = false:=by simpa using hbd
     clear TS TC hbd
     go_wp2
     go_quiet (first | (go_at_call 117; (with_reducible refine (I1 _).mono ?_); rintro e w' ⟨rfl,⟨nd,rfl⟩⟩; (try first | exact ⟨rfl,_,World.drewN_drewN _ _ _⟩ | exact ⟨rfl,_,Eq.trans (World.drewN_drewN _ _ _) (congrArg (World.drewN _) (Nat.add_assoc _ _ _))⟩)) | (go_at_call 117; (with_reducible refine (I2 _).mono ?_); rintro e w' ⟨rfl,⟨nd,rfl⟩⟩; (try first | exact ⟨rfl,_,World.drewN_drewN _ _ _⟩ | exact ⟨rfl,_,Eq.trans (World.drewN_drewN _ _ _) (congrArg (World.drewN _) (Nat.add_assoc _ _ _))⟩)))
     go_wp2_with (((with_reducible refine gate_builtin (b:=.append) (xs:=#[.tmp 27,.tmp 32]) rfl ?_); at_builtin; refine Kd.R_append Kd.string (w0:=w) w.heap.size rfl (.tmp 27) (.tmp 32) 23 9 (.string ⟨#[]⟩) 16 rfl Tryz.underlying23 infoS rfl (by decide) (by omega) (.slice Av pre.length cv) pre (s.extract fr i) [.string (s.extract fr i)] (fun _ => True) (fun _ => False) rfl rfl ?aP (fun _ hk => hk.elim) ?aF ?aO ?aB ?aS ?aL ?_; (case aP => exact rfl); (case aB => exact pw_below_drewN B1.out _); (case aF => exact (fun _ _ => trivial)); (case aO => exact Kd.R_drewN N1.out _); (case aS => exact B1.out.size); (case aL => have:=hpl.out; have:=HS.out; omega); intro v1 y1 hN1 hB1 hg_ hat_; replace hN1:=Aside0.mk hN1; replace hB1:=Aside0.mk hB1; clear hg_ hat_))
     go_roundg (s.size + 1 - (i + 1))
     case measure => omega
     case rel => exact ⟨i + 1,i,_,_,rfl,rfl,by first | rfl | (rw [hwi]),by omega,by omega,hB1,hN1,T2⟩
  ·have hdb : decide ((i : Int) ≤ (s.size : Int)) = false:=decide_eq_false (by omega)
   have he:=Aside0.mk (tk_end T1.out (by omega))
   go_wp2
   go_ret
   exact ⟨_,rfl,by rw [← he.out]; exact N1.out,B1.out⟩
def outL (fr to_ : ByteArray) (l : List ByteArray) : List UInt8:=l.flatMap (fun t => if t = fr then to_.data.toList else t.data.toList)
theorem outL_more (fr to_ : ByteArray) {l : List ByteArray} {i : Nat} (hi : i < l.length) : outL fr to_ (l.take (i + 1)) = outL fr to_ (l.take i) ++ (if l[i] = fr then to_.data.toList else l[i].data.toList):=by
 unfold outL
 rw [List.take_succ_eq_append_getElem hi,List.flatMap_append]
 simp
theorem outL_len (fr to_ : ByteArray) (M : Nat) (ht : to_.size ≤ M) : ∀ l : List ByteArray,(∀ t ∈ l,t.size ≤ M) → (outL fr to_ l).length ≤ l.length * M
 | [],_ => by simp [outL]
 | t :: l,h => by
  have h1:=outL_len fr to_ M ht l (fun x hx => h x (List.mem_cons_of_mem _ hx))
  have h2:=h t (List.mem_cons_self)
  have h3 : (if t = fr then to_.data.toList else t.data.toList).length ≤ M:=by split <;> rw [dlen] <;> assumption
  show ((if t = fr then to_.data.toList else t.data.toList) ++ outL fr to_ l).length ≤ _
  rw [List.length_append,List.length_cons,Nat.add_mul,Nat.one_mul]
  omega
theorem outL_repl (s fr to_ : ByteArray) : (⟨(outL fr to_ (piecesV s)).toArray⟩ : ByteArray) = replV s fr to_:=by
 unfold outL piecesV replV
 rw [List.flatMap_map]
 congr 2
 refine congrArg (fun f => List.flatMap f _) (funext fun r => ?_)
 by_cases h : r = fr.data.toList
 ·rw [if_pos h,if_pos (data_inj (by rw [h]))]
 ·rw [if_neg h,if_neg (fun e => h (by rw [← e]))]
theorem strOf_map (l : List UInt8) : strOfNums (l.map (fun b => (b.toNat : Int))) = ⟨l.toArray⟩:=by
 unfold strOfNums
 rw [List.map_map]
 congr 2
 conv => rhs; rw [← List.map_id l]
 refine List.map_congr_left (fun b _ => ?_)
 simp
set_option maxHeartbeats 4000000 in
set_option maxRecDepth 1000000 in
theorem replaceR_at (s fr to_ : ByteArray) (w : World) (hs : Lr s) (hf : fr.size ≤ 100000) (ht : to_.size ≤ 100000) (hk : tokenB fr = true) :
  Calls Tryz.prog 110 #[.string s,.string fr,.string to_] w fun e w' => e = .returned (.string (replV s fr to_)) ∧ Below w.heap.size w w':=by
 obtain ⟨k,hk1⟩:=(refToken fr (by omega)).rounds
 rw [hk] at hk1
 have hTk:=fun U => counterpaneref05_Token.calls k fr true U hk1
 have hTo:=fun U => tokensR_at s U (by have:=hs.size; omega)
 have hps : ∀ t ∈ piecesV s,t.size ≤ 100000:=fun t ht => by
  unfold piecesV at ht
  obtain ⟨r,hr,rfl⟩:=List.mem_map.1 ht
  exact Nat.le_trans (hs.r r hr) (by decide)
 have hpn : (piecesV s).length ≤ 4000:=by unfold piecesV; rw [List.length_map]; exact hs.n
 obtain ⟨tk,htk⟩ : ∃ tk,piecesV s = tk:=⟨_,rfl⟩
 have hsz : Aside0 (∀ i,(outL fr to_ (tk.take i)).length ≤ 10000000000):=⟨fun i => by
  have h1:=outL_len fr to_ 100000 ht (tk.take i) (fun t h => hps t (by rw [htk]; exact List.mem_of_mem_take h))
  have h2:=hpn
  rw [htk] at h2
  have h3 : (tk.take i).length ≤ 100000:=by rw [List.length_take]; omega
  have:=Nat.mul_le_mul_right 100000 h3
  omega⟩
 have hel : Aside0 (∀ t ∈ tk,t.size ≤ 100000):=⟨fun t h => hps t (by rw [htk]; exact h)⟩
 have hres : Aside0 ((⟨(outL fr to_ tk).toArray⟩ : ByteArray) = replV s fr to_):=⟨by rw [← htk]; exact outL_repl s fr to_⟩
 have htl : Aside0 (tk.length ≤ 100000):=⟨by have:=hpn; rw [htk] at this; omega⟩
 rw [htk] at hTo
 replace ht:=Aside0.mk ht
 clear hk1 hk htk hs hf hps hpn
 go_enter Tryz.func110,Tryz.ntmps110
 go_wp2_with (first | (go_at_call 71; refine (hTk _).mono ?_; rintro e w1 ⟨rfl,⟨nd,rfl⟩⟩) | (go_at_call 109; refine (hTo _).mono ?_; rintro e w2 ⟨v,rfl,hN,hB⟩; obtain ⟨A,c,rfl⟩:=Kd.R_slice hN; replace hN:=Aside0.mk hN; replace hB : Aside0 (Below w.heap.size w w2):=⟨(pw_below_drewN (Below.refl _ w) nd).trans hB⟩))
 have hN' : Aside0 (Kd.R Kd.string 9 w2 w.heap.size (fun _ => True) (.slice A tk.length c) tk):=hN
 clear hN hTk hTo
 go_loopg [8,9] tk.length (fun kx s8 s9 wr => ∃ (i : Nat) (v : Value),v = s8 ∧ s9 = .int .i64 i ∧ i + kx = tk.length ∧ Aside0 (Below w.heap.size w wr) ∧ Aside0 (Kd.R Kd.string 9 wr w.heap.size (fun _ => True) (.slice A tk.length c) tk) ∧ Aside0 (Kd.R (Kd.int .u8) 5 wr w.heap.size (fun _ => True) v ((outL fr to_ (tk.take i)).map (fun b => (b.toNat : Int)))))
 case atStart => exact ⟨0,_,rfl,rfl,by omega,hB,hN',⟨Kd.R_nil _ _ _ _ _⟩⟩
 case round =>
  clear hB hN'
  obtain ⟨i,v,rfl,rfl,hi,B1,K1,N1⟩:=hrel
  by_cases hlt : i < tk.length
  ·have hi0 : (0 : Int) ≤ (i : Int):=by omega
   have hi1 : (i : Int) < (tk.length : Int):=by omega
   have hdb : decide ((i : Int) < (tk.length : Int)) = true:=decide_eq_true hi1
   have hwi : IntKind.i64.wrap ((i : Int) + 1) = ((i + 1 : Nat) : Int):=by have:=htl.out; rw [wrap_small _ (by omega) (by omega)]; omega
   obtain ⟨A',c',he,-,hC⟩:=Kd.R_reads K1.out
   injection he with e1 e2 e3
   subst e1
   subst e3
   obtain ⟨ad,rfl,hcl⟩:=Kd.at_string hC (i : Int) hi0 hi1
   have hcx : tk[i] = rdOf ByteArray.empty tk (i : Int):=(rdOf_get _ _ hlt).symm
   obtain ⟨x,hx⟩ : ∃ x,rdOf ByteArray.empty tk (i : Int) = x:=⟨_,rfl⟩
   rw [hx] at hcl hcx
   rw [Int.toNat_natCast] at hcl
   have hm:=outL_more fr to_ hlt
   rw [hcx] at hm
   have hxs : Aside0 (x.size ≤ 100000):=⟨hel.out x (by rw [← hcx]; exact List.getElem_mem hlt)⟩
   have hsi:=Aside0.mk (hsz.out i)
   have hty:=Aside0.mk (Kd.R_typed N1.out)
   obtain ⟨ys,hys⟩ : ∃ ys,(outL fr to_ (tk.take i)).map (fun b => (b.toNat : Int)) = ys:=⟨_,rfl⟩
   have hyl : Aside0 (ys.length ≤ 10000000000):=⟨by rw [← hys,List.length_map]; exact hsi.out⟩
   have hm2 : Aside0 ((outL fr to_ (tk.take (i + 1))).map (fun b => (b.toNat : Int)) = ys ++ bytesOf (if x = fr then to_ else x)):=⟨by rw [hm,List.map_append,hys]; congr 1; split <;> rfl⟩
   rw [hys] at N1
   clear hx hcx hm hys hC
   by_cases hxf : x = fr
   ·have hbe : (x.toList == fr.toList) = true:=by rw [hxf]; simp
    rw [if_pos hxf] at hm2
    clear hxf
    go_wp2_with (at_builtin; refine print_append_str (w0:=w) w.heap.size rfl (.tmp 28) _ 148 9 5 rfl Tryz.underlying148 Tryz.underlying9 info5 v ys to_ rfl rfl ?aO ?aB ?aS ?aL ?_; (case aB => exact B1.out); (case aO => exact Kd.own_of_R N1.out); (case aS => exact B1.out.size); (case aL => have:=hyl.out; have:=ht.out; omega); intro v1 y1 ho0 hb hg; have ho:=Kd.R_of_own (h1:=fun _ => rfl) (ok:=fun _ => True) ho0 (fun _ _ => trivial); clear ho0; replace ho:=Aside0.mk ho; replace hb:=Aside0.mk hb; have hK2:=Aside0.mk (Kd.R_over' K1.out hty.out (by decide) hg); clear hg)
    go_roundg (tk.length - (i + 1))
    case measure => omega
    case rel => exact ⟨i + 1,_,rfl,by first | rfl | (rw [hwi]),by omega,hb,hK2,⟨by rw [hm2.out]; exact ho.out⟩⟩
   ·have hbe : (x.toList == fr.toList) = false:=by rw [beq_eq_false_iff_ne]; exact fun h => hxf (toList_inj h)
    rw [if_neg hxf] at hm2
    clear hxf
    go_wp2_with (at_builtin; refine print_append_str (w0:=w) w.heap.size rfl (.tmp 31) _ 148 9 5 rfl Tryz.underlying148 Tryz.underlying9 info5 v ys x rfl rfl ?aO ?aB ?aS ?aL ?_; (case aB => exact B1.out); (case aO => exact Kd.own_of_R N1.out); (case aS => exact B1.out.size); (case aL => have:=hyl.out; have:=hxs.out; omega); intro v1 y1 ho0 hb hg; have ho:=Kd.R_of_own (h1:=fun _ => rfl) (ok:=fun _ => True) ho0 (fun _ _ => trivial); clear ho0; replace ho:=Aside0.mk ho; replace hb:=Aside0.mk hb; have hK2:=Aside0.mk (Kd.R_over' K1.out hty.out (by decide) hg); clear hg)
    go_roundg (tk.length - (i + 1))
    case measure => omega
    case rel => exact ⟨i + 1,_,rfl,by first | rfl | (rw [hwi]),by omega,hb,hK2,⟨by rw [hm2.out]; exact ho.out⟩⟩
  ·have hdb : decide ((i : Int) < (tk.length : Int)) = false:=decide_eq_false (by omega)
   have hall : tk.take i = tk:=List.take_of_length_le (by omega)
   rw [hall] at N1
   have hcv:=own_string (P:=Tryz.prog) Tryz.underlying148 Tryz.underlying5 Tryz.underlying9 (Kd.own_of_R N1.out)
   rw [strOf_map,hres.out] at hcv
   clear hall
   go_wp2
   go_ret
   exact ⟨rfl,B1.out⟩
theorem litSE (w : World) : Kd.N Kd.string 9 (w.alloc (.cells #[] 9)) w.heap.size (fun _ => True) (.slice (some ⟨w.heap.size,0,none⟩) 0 0) []:=by
 have hr : Reps (fun x c => Kd.FK Kd.string w (fun _ => False) x c) Kd.string.sz [] []:=Reps.none _ _
 have ho : Kd.NN Kd.string 9 (w.alloc (.cells #[] 9)) w.heap.size (fun _ => False) (.slice (some ⟨w.heap.size,0,none⟩) 0 0) [] :=
  OwnRow.lit w w.heap.size (hr.imp_ (fun _ _ h => Kd.FK_below h (below_alloc (Below.refl _ _) _))) (Nat.le_refl _) (by simp)
 exact Kd.N_mono (Kd.NN_N ho (fun _ h => h.elim)) (fun _ _ => trivial)
theorem take_more {L O : List ByteArray} {a i : Nat} (h1 : a + i < L.length) (h2 : i < O.length) (h : (L.drop a).take i = O.take i) (he : L[a + i] = O[i]) : (L.drop a).take (i + 1) = O.take (i + 1):=by
 rw [List.take_add_one,List.take_add_one,h,List.getElem?_drop,List.getElem?_eq_getElem h1,List.getElem?_eq_getElem h2,he]
theorem hunk_no {L O N : List ByteArray} {a i : Nat} (h1 : a + i < L.length) (h2 : i < O.length) (he : ¬ L[a + i] = O[i]) : hunkV L a O N = none:=by
 unfold hunkV
 rw [if_neg]
 rintro ⟨_,h3,h4⟩
 rw [Int.toNat_natCast] at h3 h4
 apply he
 have h5 : ((L.drop a).take O.length)[i]? = O[i]?:=by rw [h4]
 rw [List.getElem?_take,if_pos h2,List.getElem?_drop,List.getElem?_eq_getElem h1,List.getElem?_eq_getElem h2] at h5
 exact Option.some.inj h5
set_option maxHeartbeats 8000000 in
set_option maxRecDepth 1000000 in
theorem hunkN_at (L O N : List ByteArray) (A : Option Addr) (c : Nat) (a : Nat) (AO : Option Addr) (cO : Nat) (AN : Option Addr) (cN : Nat) (W : World) (gL : Kd.string.C W A L.length L) (lL : L.length ≤ c) (gO : Kd.string.C W AO O.length O) (lO : O.length ≤ cO) (gN : Kd.string.C W AN N.length N) (lN : N.length ≤ cN)
  (ha : a ≤ 1073741824) (hl1 : L.length ≤ 1000000000) (hl2 : O.length ≤ 1000000000) (hl3 : N.length ≤ 1000000000) :
  Calls Tryz.prog 37 #[.slice A L.length c,.agg #[.int .i64 (a : Int),.slice AO O.length cO,.slice AN N.length cN]] W fun e W' => Below W.heap.size W W' ∧
   ∃ v,e = .returned (.tuple #[v,.bool (hunkV L a O N).isSome]) ∧ (hunkV L a O N = none → v = .slice none 0 0) ∧ ∀ M,hunkV L a O N = some M → Kd.N Kd.string 9 W' W.heap.size (fun _ => True) v M:=by
 have HB : Aside0 (Below W.heap.size W (W.alloc (.cells #[.int .i64 (a : Int),.slice AO O.length cO,.slice AN N.length cN] 53))):=⟨below_alloc (Below.refl _ _) _⟩
 have HX : Aside0 ((W.alloc (.cells #[.int .i64 (a : Int),.slice AO O.length cO,.slice AN N.length cN] 53)).heap[W.heap.size]? = some (.cells #[.int .i64 (a : Int),.slice AO O.length cO,.slice AN N.length cN] 53 (0,0))):=⟨blk_new _ _⟩
 have b0:=(blk_cell HX.out 0).trans (show _ = some (Value.int .i64 (a : Int)) from rfl)
 have b1:=(blk_cell HX.out 1).trans (show _ = some (Value.slice AO O.length cO) from rfl)
 have b2:=(blk_cell HX.out 2).trans (show _ = some (Value.slice AN N.length cN) from rfl)
 have e0 : decide ((a : Int) < 0) = false:=decide_eq_false (by omega)
 have GL:=Aside0.mk gL
 have GO:=Aside0.mk gO
 have GN:=Aside0.mk gN
 have H1:=Aside0.mk hl1
 have H2:=Aside0.mk hl2
 have H3:=Aside0.mk hl3
 have LL:=Aside0.mk lL
 have LO:=Aside0.mk lO
 have LN:=Aside0.mk lN
 have hw1 : IntKind.i64.wrap ((L.length : Int) - (a : Int)) = (L.length : Int) - (a : Int):=wrap64_same (by omega) (by omega)
 clear gL gO gN lL lO lN
 by_cases h1 : a ≤ L.length
 ·have e1 : decide ((L.length : Int) < (a : Int)) = false:=decide_eq_false (by omega)
  have e1n : decide (L.length < a) = false:=decide_eq_false (by omega)
  by_cases h2 : a + O.length ≤ L.length
  ·have e2 : decide ((L.length : Int) - (a : Int) < (O.length : Int)) = false:=decide_eq_false (by omega)
   have hw2 : IntKind.i64.wrap ((a : Int) + (O.length : Int)) = (a : Int) + (O.length : Int):=wrap64_same (by omega) (by omega)
   have T0 : Aside0 ((L.drop a).take 0 = O.take 0):=⟨by rw [List.take_zero,List.take_zero]⟩
   go_enter Tryz.func37,Tryz.ntmps37
   go_wp2
   go_loopg [6] O.length (fun kx s6 wr => ∃ i : Nat,s6 = .int .i64 i ∧ i + kx = O.length ∧ Aside0 (Below W.heap.size W wr) ∧ Aside0 (wr.heap[W.heap.size]? = some (.cells #[.int .i64 (a : Int),.slice AO O.length cO,.slice AN N.length cN] 53 (0,0))) ∧ Aside0 ((L.drop a).take i = O.take i))
   case atStart => exact ⟨0,rfl,by omega,HB,HX,T0⟩
   case round =>
    clear b0 b1 b2 HB HX T0
    obtain ⟨i,rfl,hi,B1,X1,T1⟩:=hrel
    have b0:=(blk_cell X1.out 0).trans (show _ = some (Value.int .i64 (a : Int)) from rfl)
    have b1:=(blk_cell X1.out 1).trans (show _ = some (Value.slice AO O.length cO) from rfl)
    by_cases hlt : i < O.length
    ·have hi0 : (0 : Int) ≤ (i : Int):=by omega
     have hi1 : (i : Int) < (O.length : Int):=by omega
     have hx0 : (0 : Int) ≤ (a : Int) + (i : Int):=by omega
     have hx1 : (a : Int) + (i : Int) < (L.length : Int):=by omega
     have hdb : decide ((i : Int) < (O.length : Int)) = true:=decide_eq_true hi1
     have hwi : IntKind.i64.wrap ((i : Int) + 1) = ((i + 1 : Nat) : Int):=by rw [wrap_small _ (by omega) (by omega)]; omega
     have hwx : IntKind.i64.wrap ((a : Int) + (i : Int)) = (a : Int) + (i : Int):=wrap64_same (by omega) (by omega)
     obtain ⟨ad,rfl,hcl⟩:=Kd.at_string (Kd.C_below GL.out B1.out) ((a : Int) + (i : Int)) hx0 hx1
     obtain ⟨ao,rfl,hco⟩:=Kd.at_string (Kd.C_below GO.out B1.out) (i : Int) hi0 hi1
     have hcx : L[a + i]'(by omega) = rdOf ByteArray.empty L ((a : Int) + (i : Int)):=by
      rw [show (a : Int) + (i : Int) = ((a + i : Nat) : Int) by omega]; exact (rdOf_get _ _ (by omega)).symm
     have hcy : O[i] = rdOf ByteArray.empty O (i : Int):=(rdOf_get _ _ hlt).symm
     obtain ⟨x,hx⟩ : ∃ x,rdOf ByteArray.empty L ((a : Int) + (i : Int)) = x:=⟨_,rfl⟩
     obtain ⟨y,hy⟩ : ∃ y,rdOf ByteArray.empty O (i : Int) = y:=⟨_,rfl⟩
     rw [hx] at hcl hcx
     rw [hy,Int.toNat_natCast] at hco
     rw [hy] at hcy
     have TM : Aside0 (x = y → Aside0 ((L.drop a).take (i + 1) = O.take (i + 1))):=⟨fun h => ⟨take_more (by omega) hlt T1.out (by rw [hcx,hcy,h])⟩⟩
     have TN : Aside0 (¬ x = y → Aside0 (hunkV L a O N = none)):=⟨fun h => ⟨hunk_no (by omega) hlt (by rw [hcx,hcy]; exact h)⟩⟩
     clear hx hy hcx hcy
     by_cases hxy : x = y
     ·subst hxy
      go_wp2
      go_region_held3 (fun U => U.cell? ⟨W.heap.size,0,none⟩ = some (.int .i64 (a : Int)) ∧ U.cell? ⟨W.heap.size,1,none⟩ = some (.slice (some ao) O.length cO) ∧ U.cell? (ad.add ((a : Int) + (i : Int)).toNat) = some (.string x) ∧ U.cell? (ao.add i) = some (.string x)) (exact ⟨b0,b1,hcl,hco⟩) (fail)
      go_wp2
      go_roundg (O.length - (i + 1))
      case measure => omega
      case rel =>
       clear b0 b1 hcl hco
       exact ⟨i + 1,rfl,by omega,⟨below_drew B1.out⟩,⟨X1.out⟩,TM.out (by trivial)⟩
     ·have hv:=(TN.out hxy).out
      have hv:=Aside0.mk hv
      have hbe : (x.toList == y.toList) = false:=by rw [beq_eq_false_iff_ne]; exact fun h => hxy (toList_inj h)
      go_wp2
      go_region_held3 (fun U => U.cell? ⟨W.heap.size,0,none⟩ = some (.int .i64 (a : Int)) ∧ U.cell? ⟨W.heap.size,1,none⟩ = some (.slice (some ao) O.length cO) ∧ U.cell? (ad.add ((a : Int) + (i : Int)).toNat) = some (.string x) ∧ U.cell? (ao.add i) = some (.string y)) (exact ⟨b0,b1,hcl,hco⟩) (fail)
      go_wp2
      go_ret2
      exact ⟨below_drew B1.out,_,by rw [hv.out]; rfl,fun _ => rfl,fun M h => by rw [hv.out] at h; cases h⟩
    ·obtain rfl : i = O.length:=by omega
     have hdb : decide ((O.length : Int) < (O.length : Int)) = false:=decide_eq_false (by omega)
     have hv : Aside0 (hunkV L a O N = some (L.take a ++ N ++ L.drop (a + O.length))):=⟨by
      unfold hunkV
      rw [if_pos,Int.toNat_natCast]
      refine ⟨by omega,by rw [Int.toNat_natCast]; exact h2,?_⟩
      rw [Int.toNat_natCast,T1.out,List.take_length]⟩
     obtain ⟨i0,hi0,_,hsz,_⟩:=info_parts infoS
     have hcut2:=cut_to (P:=Tryz.prog) 23 9 .i64 Tryz.underlying23 hi0 A L.length c (a : Int) (by omega) (by omega) LL.out
     have hcut3:=cut_from (P:=Tryz.prog) 23 9 .i64 Tryz.underlying23 hi0 1 hsz A L.length c ((a : Int) + (O.length : Int)) (by omega) (by omega)
     rw [Int.toNat_natCast] at hcut2
     rw [show ((a : Int) + (O.length : Int)).toNat = a + O.length by omega] at hcut3
     have C2 : ∀ w,Kd.string.C w A L.length L → Kd.string.C w A a (L.take a):=fun w h => by
      have h3:=Kd.C_take h (m:=a) h1
      rwa [show (L.take a).length = a by rw [List.length_take]; omega] at h3
     have C3 : ∀ w,Kd.string.C w A L.length L → Kd.string.C w (if c = a + O.length then A else A.map (·.add ((a + O.length) * 1))) (L.length - (a + O.length)) (L.drop (a + O.length)):=fun w h => by
      have h3:=Kd.C_drop h (m:=a + O.length) h2 LL.out
      rw [List.length_drop] at h3
      exact h3
     obtain ⟨A3,hA3⟩ : ∃ A3,(if c = a + O.length then A else A.map (·.add ((a + O.length) * 1))) = A3:=⟨_,rfl⟩
     rw [hA3] at hcut3 C3
     have F2 : Aside0 (Kd.F Kd.string wr (fun k => k < wr.heap.size) A a (L.take a)):=⟨Kd.C_F Kd.heap_string (C2 _ (Kd.C_below GL.out B1.out))⟩
     have F3 : Aside0 (Kd.F Kd.string wr (fun k => k < wr.heap.size) A3 (L.length - (a + O.length)) (L.drop (a + O.length))):=⟨Kd.C_F Kd.heap_string (C3 _ (Kd.C_below GL.out B1.out))⟩
     have FN : Aside0 (Kd.F Kd.string wr (fun k => k < wr.heap.size) AN N.length N):=⟨Kd.C_F Kd.heap_string (Kd.C_below GN.out B1.out)⟩
     have hml : Aside0 ((L.take a).length = a):=⟨by rw [List.length_take]; omega⟩
     clear C2 C3 hA3 hi0 hsz T1
     have hL : Aside0 (Below wr.heap.size wr (wr.alloc (.cells #[] 9))):=⟨below_alloc (Below.refl _ _) _⟩
     have hN0:=Aside0.mk (litSE wr)
     have ok0 : Aside0 (∀ k,k < wr.heap.size → True ∧ some k ≠ (Value.slice (some ⟨wr.heap.size,0,none⟩) 0 0).ownBlock):=⟨fun k hk => ⟨trivial,fun e => by simp [Value.ownBlock] at e; omega⟩⟩
     have b0':=pw_cell_below hL.out b0
     obtain ⟨m2,hm2⟩ : ∃ m,L.take a = m:=⟨_,rfl⟩
     rw [hm2] at hml hv F2
     obtain ⟨m3,hm3⟩ : ∃ m,L.drop (a + O.length) = m:=⟨_,rfl⟩
     rw [hm3] at hv F3
     clear hm2 hm3
     go_upto_region 9 with (((with_reducible refine gate_builtin (b:=.append) (xs:=#[.tmp 49,.tmp 53]) rfl ?_); at_builtin; refine Kd.N_append_rows Kd.string (w0:=wr) wr.heap.size rfl (.tmp 49) (.tmp 53) 23 9 (.string ⟨#[]⟩) 16 rfl Tryz.underlying23 infoS rfl (by decide) (by omega) (.slice (some ⟨wr.heap.size,0,none⟩) 0 0) [] m2 A a c (fun _ => True) (fun k => k < wr.heap.size) rfl rfl ?aO ?aR ?aP (fun _ _ => trivial) ?aB ?aS ?aL ?_; (case aO => exact hN0.out); (case aR => exact Kd.F_below F2.out hL.out); (case aP => exact ok0.out); (case aB => exact hL.out); (case aS => exact (hL.out).size); (case aL => have:=H1.out; simp; omega); intro v1 y1 hN1 hB1 hg_ hat_; replace hN1:=Aside0.mk hN1; replace hB1:=Aside0.mk hB1; clear hg_ hat_))
     rw [List.nil_append] at hN1
     clear b0 b1 b0' hL hN0 ok0 F2 hcut2
     have X2:=Aside0.mk (blk_below X1.out hB1.out)
     have b2:=(blk_cell X2.out 2).trans (show _ = some (Value.slice AN N.length cN) from rfl)
     have ok1 : Aside0 (∀ k,k < wr.heap.size → True ∧ some k ≠ v1.ownBlock):=⟨fun k hk => ⟨trivial,fun e => absurd (Kd.N_base hN1.out k e.symm) (by omega)⟩⟩
     go_upto_region 10 with (((with_reducible refine gate_builtin (b:=.append) (xs:=#[.tmp 55,.tmp 57]) rfl ?_); at_builtin; refine Kd.N_append_rows Kd.string (w0:=wr) wr.heap.size rfl (.tmp 55) (.tmp 57) 23 9 (.string ⟨#[]⟩) 16 rfl Tryz.underlying23 infoS rfl (by decide) (by omega) v1 m2 N AN N.length cN (fun _ => True) (fun k => k < wr.heap.size) rfl rfl ?aO ?aR ?aP (fun _ _ => trivial) ?aB ?aS ?aL ?_; (case aO => exact hN1.out); (case aR => exact Kd.F_below FN.out hB1.out); (case aP => exact ok1.out); (case aB => exact hB1.out); (case aS => exact (hB1.out).size); (case aL => have:=H1.out; have:=H3.out; have:=hml.out; omega); intro v2 y2 hN2 hB2 hg_ hat_; replace hN2:=Aside0.mk hN2; replace hB2:=Aside0.mk hB2; clear hg_ hat_))
     clear b2 hN1 hB1 ok1 FN X2
     have X3:=Aside0.mk (blk_below X1.out hB2.out)
     have b0:=(blk_cell X3.out 0).trans (show _ = some (Value.int .i64 (a : Int)) from rfl)
     have b1:=(blk_cell X3.out 1).trans (show _ = some (Value.slice AO O.length cO) from rfl)
     have ok2 : Aside0 (∀ k,k < wr.heap.size → True ∧ some k ≠ v2.ownBlock):=⟨fun k hk => ⟨trivial,fun e => absurd (Kd.N_base hN2.out k e.symm) (by omega)⟩⟩
     go_wp2_with (((with_reducible refine gate_builtin (b:=.append) (xs:=#[.tmp 59,.tmp 67]) rfl ?_); at_builtin; refine Kd.N_append_rows Kd.string (w0:=wr) wr.heap.size rfl (.tmp 59) (.tmp 67) 23 9 (.string ⟨#[]⟩) 16 rfl Tryz.underlying23 infoS rfl (by decide) (by omega) v2 (m2 ++ N) m3 A3 (L.length - (a + O.length)) (c - (a + O.length)) (fun _ => True) (fun k => k < wr.heap.size) rfl rfl ?aO ?aR ?aP (fun _ _ => trivial) ?aB ?aS ?aL ?_; (case aO => exact hN2.out); (case aR => exact Kd.F_below F3.out hB2.out); (case aP => exact ok2.out); (case aB => exact hB2.out); (case aS => exact (hB2.out).size); (case aL => have:=H1.out; have:=H3.out; have:=hml.out; rw [List.length_append]; omega); intro v3 y3 hN3 hB3 hg_ hat_; replace hN3:=Aside0.mk hN3; replace hB3:=Aside0.mk hB3; clear hg_ hat_))
     go_ret2
     exact ⟨B1.out.trans (hB3.out.mono B1.out.size),v3,by rw [hv.out]; rfl,fun h => by (rw [hv.out] at h; cases h),fun M h => by (rw [hv.out] at h; cases h; exact Kd.N_lower hN3.out B1.out.size)⟩
  ·have e1' : decide ((L.length : Int) - (a : Int) < (O.length : Int)) = true:=decide_eq_true (by omega)
   have hv : hunkV L a O N = none:=by
    unfold hunkV
    rw [if_neg]
    rintro ⟨_,h,_⟩
    rw [Int.toNat_natCast] at h
    omega
   rw [hv]
   clear hv
   go_enter Tryz.func37,Tryz.ntmps37
   go_wp2
   go_ret2
   exact ⟨HB.out,_,rfl,fun _ => rfl,fun M h => by cases h⟩
 ·have e1 : decide ((L.length : Int) < (a : Int)) = true:=decide_eq_true (by omega)
  have hv : hunkV L a O N = none:=by
   unfold hunkV
   rw [if_neg]
   rintro ⟨_,h,_⟩
   rw [Int.toNat_natCast] at h
   omega
  rw [hv]
  clear hv
  go_enter Tryz.func37,Tryz.ntmps37
  go_wp2
  go_ret2
  exact ⟨HB.out,_,rfl,fun _ => rfl,fun M h => by cases h⟩
theorem movedR_at (p fr dst : ByteArray) (w : World) (hs : dst.size + p.size ≤ 140737488355328) : Calls Tryz.prog 34 #[.string p,.string fr,.string dst] w fun e w' => e = .returned (.tuple #[.string (if withinB p fr then mv p fr dst else e0),.bool (withinB p fr)]) ∧ Below w.heap.size w w':=by
 have hW:=counterpaneref04_Within.calls p fr (withinB p fr) w (refWithin_f p fr)
 cases hb : withinB p fr with
 | false =>
  rw [hb] at hW
  rw [if_neg (by simp)]
  unfold e0
  go_enter Tryz.func34,Tryz.ntmps34
  go_wp2_with (go_at_call 74; refine hW.mono ?_; rintro e w' ⟨rfl,m,rfl⟩)
  refine bodyPost_ret ?_ rfl ⟨rfl,pw_below_drewN (Below.refl _ w) m⟩
  simp [results,Tryz.results34]
 | true =>
  have hle:=within_size hb
  rw [hb] at hW
  rw [if_pos rfl]
  unfold mv
  have hlen : (dst.size : Int) + ((p.size - fr.size : Nat) : Int) ≤ 9223372036854775807:=by omega
  have hsl : ∀ W,(Instr.slice 9 (.string p) (some (.int .i64 (fr.size : Int))) none none).run Tryz.prog W = .ok (.string (p.extract fr.size p.size)) W:=fun W => by
   rw [run_slice_string_from_if W 9 p .i64 _ Tryz.underlying9,if_pos ⟨by omega,by omega⟩,Int.toNat_natCast]
  go_enter Tryz.func34,Tryz.ntmps34
  go_wp2_with (go_at_call 74; refine hW.mono ?_; rintro e w' ⟨rfl,m,rfl⟩)
  refine bodyPost_ret ?_ rfl ⟨rfl,pw_below_drewN (Below.refl _ w) m⟩
  simp [results,Tryz.results34]
theorem below_setCell4 {w W : World} {B : Nat} {g : Nat} {v : Value} (h : Below B w W) (hg : B ≤ g) : Below B w (W.setCell ⟨g,0,none⟩ v):=Below.setCell (p:=⟨g,0,none⟩) h hg _
theorem put4 {W : World} {g : Nat} {z0 z1 z2 z3 : Value} (h : W.heap[g]? = some (.cells #[z0,z1,z2,z3] 41 (0,0))) (v0 v1 v2 v3 : Value) :
  ((((W.setCell ⟨g,0,none⟩ v0).setCell ⟨g,1,none⟩ v1).setCell ⟨g,2,none⟩ v2).setCell ⟨g,3,none⟩ v3).heap[g]? = some (.cells #[v0,v1,v2,v3] 41 (0,0)):=blk_set (blk_set (blk_set (blk_set h 0 _) 1 _) 2 _) 3 _
theorem below4 {w W : World} {g : Nat} (h : Below w.heap.size w W) (hg : w.heap.size ≤ g) (v0 v1 v2 v3 : Value) : Below w.heap.size w ((((W.setCell ⟨g,0,none⟩ v0).setCell ⟨g,1,none⟩ v1).setCell ⟨g,2,none⟩ v2).setCell ⟨g,3,none⟩ v3) :=
 below_set (below_set (below_set (below_set h hg) hg) hg) hg
def AnsC (w : World) (x : S41) (p : S25) (e : Ending) (w' : World) : Prop :=
 ∃ (y : S41) (Y : Option Addr) (c : Nat),e = .returned (.tuple #[.agg #[.string y.f0,.int .i64 y.f1,.slice Y y.f2.length c,.string y.f3],.bool (changeV x p).isSome]) ∧ Below w.heap.size w w' ∧
  ∀ z,changeV x p = some z → z = y ∧ y.f2.length ≤ c ∧ Kd.string.C w' Y y.f2.length y.f2
theorem ansC {w w' : World} {x y : S41} {p : S25} {Y : Option Addr} {c : Nat} {o : Option S41} {b : Bool} (h : changeV x p = o) (hb : o.isSome = b) (hw : Below w.heap.size w w') (hy : ∀ z,o = some z → z = y ∧ y.f2.length ≤ c ∧ Kd.string.C w' Y y.f2.length y.f2) :
  AnsC w x p (.returned (.tuple #[.agg #[.string y.f0,.int .i64 y.f1,.slice Y y.f2.length c,.string y.f3],.bool b])) w':=⟨y,Y,c,by rw [h,hb],hw,by rw [h]; exact hy⟩
structure Bx (w : World) (xc pc zc : Array Value) (W : World) : Prop where
 b : Below w.heap.size w W
 x : W.heap[w.heap.size]? = some (.cells xc 41 (0,0))
 p : W.heap[w.heap.size + 1]? = some (.cells pc 25 (0,0))
 z : W.heap[w.heap.size + 1 + 1]? = some (.cells zc 41 (0,0))
theorem Bx.later {w W V : World} {xc pc zc : Array Value} (h : Bx w xc pc zc W) (hb : Below W.heap.size W V) : Bx w xc pc zc V:=⟨h.b.trans (hb.mono h.b.size),blk_below h.x hb,blk_below h.p hb,blk_below h.z hb⟩
theorem Bx.start (w : World) (xc pc zc : Array Value) : Bx w xc pc zc (((w.alloc (.cells xc 41)).alloc (.cells pc 25)).alloc (.cells zc 41)) :=
 ⟨((below_alloc (Below.refl _ _) _).alloc (by simp) _).alloc (by simp; omega) _,blk_alloc (box1 w _ _) _,blk_alloc (box2 w _ _) _,by have h:=blk_new ((w.alloc (.cells xc 41)).alloc (.cells pc 25)) (.cells zc 41); simpa using h⟩
theorem Bx.put {w W : World} {xc pc zc : Array Value} (h : Bx w xc pc zc W) (i : Nat) (v : Value) : Bx w (xc.setIfInBounds i v) pc zc (W.setCell ⟨w.heap.size,i,none⟩ v) :=
 ⟨below_set h.b (Nat.le_refl _),blk_set h.x i v,blk_far h.p (by show w.heap.size + 1 ≠ w.heap.size; omega) v,blk_far h.z (by show w.heap.size + 1 + 1 ≠ w.heap.size; omega) v⟩
theorem Bx.C {w W : World} {xc pc zc : Array Value} (h : Bx w xc pc zc W) {A : Option Addr} {n : Nat} {l : List ByteArray} (hc : Kd.string.C w A n l) : Kd.string.C W A n l:=Kd.C_below hc h.b
theorem strC_far {W V : World} {A : Option Addr} {n : Nat} {l : List ByteArray} (h : Kd.string.C W A n l) (hk : ∀ ad,A = some ad → V.heap[ad.block]? = W.heap[ad.block]?) : Kd.string.C V A n l:=by
 have h2:=Kd.reads_of_C (d:=ByteArray.empty) h
 refine Kd.C_of_reads (d:=ByteArray.empty) ⟨h2.1,h2.2.1,fun hn => ?_⟩
 obtain ⟨ad,e,hc⟩:=h2.2.2 hn
 refine ⟨ad,e,fun j hj => ?_⟩
 have hb : (ad.add j).block = ad.block:=by unfold Addr.add; split <;> rfl
 rw [World.cell?_of_block (w:=W) (by rw [hb]; exact hk ad e)]
 exact hc j hj
theorem N_strC {W : World} {base : Nat} {v : Value} {M : List ByteArray} {ok : Nat → Prop} (h : Kd.N Kd.string 9 W base ok v M) :
  ∃ A c,v = .slice A M.length c ∧ M.length ≤ c ∧ ∀ V : World,(∀ k,base ≤ k → k < W.heap.size → V.heap[k]? = W.heap[k]?) → Kd.string.C V A M.length M:=by
 obtain ⟨A,c,rfl,hc,hC⟩:=Kd.N_reads h
 refine ⟨A,c,rfl,hc,fun V hV => ?_⟩
 cases M with
 | nil => exact strC0 V A
 | cons a t =>
  obtain ⟨g,cap,e,hg,hgl,_⟩:=Kd.N_form h (by simp)
  injection e with e1 e2 e3
  subst e1
  exact strC_far hC (fun ad e => by cases e; exact hV g hg hgl)
theorem far1 (W : World) (g i : Nat) (v : Value) {k : Nat} (h : k ≠ g) : (W.setCell ⟨g,i,none⟩ v).heap[k]? = W.heap[k]?:=Below.heap_setCell W ⟨g,i,none⟩ v k h
theorem far4 (W : World) (g : Nat) (v0 v1 v2 v3 : Value) {k : Nat} (h : k ≠ g) : ((((W.setCell ⟨g,0,none⟩ v0).setCell ⟨g,1,none⟩ v1).setCell ⟨g,2,none⟩ v2).setCell ⟨g,3,none⟩ v3).heap[k]? = W.heap[k]?:=by
 rw [far1 _ _ _ _ h,far1 _ _ _ _ h,far1 _ _ _ _ h,far1 _ _ _ _ h]
set_option maxHeartbeats 8000000 in
set_option maxRecDepth 1000000 in
theorem bytesR_at (x : S41) (X : Option Addr) (d : Nat) (p : S25) (A5 : Option Addr) (a5 : Nat) (A6 : Option Addr) (a6 : Nat) (w : World) (h9 : p.f0 = 9) (hX : Kd.string.C w X x.f2.length x.f2) (hd : x.f2.length ≤ d) :
  Calls Tryz.prog 65 #[.agg #[.string x.f0,.int .i64 x.f1,.slice X x.f2.length d,.string x.f3],.agg #[.int .i64 p.f0,.string p.f1,.string p.f2,.string p.f3,.int .i64 p.f4,.slice A5 p.f5.length a5,.slice A6 p.f6.length a6]] w (AnsC w x p):=by
 have H0:=Bx.start w #[.string x.f0,.int .i64 x.f1,.slice X x.f2.length d,.string x.f3] #[.int .i64 p.f0,.string p.f1,.string p.f2,.string p.f3,.int .i64 p.f4,.slice A5 p.f5.length a5,.slice A6 p.f6.length a6] #[.string ⟨#[]⟩,.int .i64 0,.slice none 0 0,.string ⟨#[]⟩]
 have hb9 : (p.f0 == 9) = true:=by rw [h9]; rfl
 have hv : changeV x p = if x.f3 = p.f3 then some { x with f3:=p.f2 } else none:=by unfold changeV; rw [if_neg (by omega),if_neg (by omega)]
 obtain ⟨b,hb⟩ : ∃ b,(x.f3.toList == p.f3.toList) = b:=⟨_,rfl⟩
 have hv2 : Aside0 (changeV x p = if b = true then some { x with f3:=p.f2 } else none):=⟨by
  rw [hv,← hb]
  by_cases h : x.f3 = p.f3
  ·rw [if_pos h,if_pos (by rw [h]; simp)]
  ·rw [if_neg h,if_neg (fun k => h (toList_inj (by simpa using k)))]⟩
 replace hX:=Aside0.mk hX
 replace hd:=Aside0.mk hd
 clear hv h9
 go_enter Tryz.func65,Tryz.ntmps65
 go_upto_region 1 with (fail)
 obtain ⟨u,hu⟩ : ∃ u,((w.alloc (.cells #[.string x.f0,.int .i64 x.f1,.slice X x.f2.length d,.string x.f3] 41)).alloc (.cells #[.int .i64 p.f0,.string p.f1,.string p.f2,.string p.f3,.int .i64 p.f4,.slice A5 p.f5.length a5,.slice A6 p.f6.length a6] 25)).alloc (.cells #[.string ⟨#[]⟩,.int .i64 0,.slice none 0 0,.string ⟨#[]⟩] 41) = u:=⟨_,rfl⟩
 rw [hu] at H0 ⊢
 clear hu
 obtain ⟨x0,x1,x2,x3⟩:=cells4 H0.x
 obtain ⟨b0,b1,b2,b3,b4,b5,b6⟩:=cells7 H0.p
 have hf3:=blk_frozen H0.x 3
 have H1:=H0.put 3 (.string p.f2)
 generalize hV : u.setCell ⟨w.heap.size,3,none⟩ (.string p.f2) = V at H1
 go_upto_region 4 with (fail)
 try rw [hV]
 clear x0 x1 x2 x3 b0 b1 b2 b3 b4 b5 b6 hf3 hV
 have H1' : Bx w #[.string x.f0,.int .i64 x.f1,.slice X x.f2.length d,.string p.f2] #[.int .i64 p.f0,.string p.f1,.string p.f2,.string p.f3,.int .i64 p.f4,.slice A5 p.f5.length a5,.slice A6 p.f6.length a6] #[.string ⟨#[]⟩,.int .i64 0,.slice none 0 0,.string ⟨#[]⟩] V:=H1
 clear H1
 obtain ⟨x0,x1,x2,x3⟩:=cells4 H1'.x
 obtain ⟨z0,z1,z2,z3⟩:=cells4 H1'.z
 have f0:=blk_frozen H1'.z 0
 have f1:=blk_frozen H1'.z 1
 have f2:=blk_frozen H1'.z 2
 have f3:=blk_frozen H1'.z 3
 have HP:=put4 H1'.z (.string x.f0) (.int .i64 x.f1) (.slice X x.f2.length d) (.string p.f2)
 have HB:=below4 H1'.b (show w.heap.size ≤ w.heap.size + 1 + 1 by omega) (.string x.f0) (.int .i64 x.f1) (.slice X x.f2.length d) (.string p.f2)
 replace HP:=Aside0.mk HP
 replace HB:=Aside0.mk HB
 replace H1':=Aside0.mk H1'
 go_wp2
 refine bodyPost_ret (results_ct rfl _ _ (w.heap.size + 1 + 1) 41 #[.string x.f0,.int .i64 x.f1,.slice X x.f2.length d,.string p.f2] (0,0) _ rfl HP.out Tryz.underlying41 rfl (by kernel_rfl)) rfl ?_
 refine ansC (y:={ x with f3:=p.f2 }) hv2.out ?_ HB.out ?_
 ·cases b <;> rfl
 ·intro z hz
  cases b with
  | false => cases hz
  | true => exact ⟨(Option.some.inj hz).symm,hd.out,Kd.C_below hX.out HB.out⟩
set_option maxHeartbeats 8000000 in
set_option maxRecDepth 1000000 in
theorem linesRR_at (x : S41) (X : Option Addr) (d : Nat) (p : S25) (A5 : Option Addr) (a5 : Nat) (A6 : Option Addr) (a6 : Nat) (w : World) (h7 : p.f0 = 7) (hp : primB p = true) (hq : SmallQ p) (hX : Kd.string.C w X x.f2.length x.f2) (hd : x.f2.length ≤ d) (hl : x.f2.length ≤ 1000000000) (rp : Rd w p A5 a5 A6 a6) :
  Calls Tryz.prog 65 #[.agg #[.string x.f0,.int .i64 x.f1,.slice X x.f2.length d,.string x.f3],.agg #[.int .i64 p.f0,.string p.f1,.string p.f2,.string p.f3,.int .i64 p.f4,.slice A5 p.f5.length a5,.slice A6 p.f6.length a6]] w (AnsC w x p):=by
 have H0:=Bx.start w #[.string x.f0,.int .i64 x.f1,.slice X x.f2.length d,.string x.f3] #[.int .i64 p.f0,.string p.f1,.string p.f2,.string p.f3,.int .i64 p.f4,.slice A5 p.f5.length a5,.slice A6 p.f6.length a6] #[.string ⟨#[]⟩,.int .i64 0,.slice none 0 0,.string ⟨#[]⟩]
 have hb9 : (p.f0 == 9) = false:=by rw [h7]; rfl
 have hb7 : (p.f0 == 7) = true:=by rw [h7]; rfl
 have hv : Aside0 (changeV x p = (hunkV x.f2 p.f4 p.f5 p.f6).map (fun l => { x with f2:=l })):=⟨by unfold changeV; rw [if_pos h7]⟩
 obtain ⟨_,_,k0,k1,_⟩:=prim_lines hp h7
 obtain ⟨a,ha⟩ : ∃ a : Nat,p.f4 = (a : Int):=⟨p.f4.toNat,by omega⟩
 have hA:=fun U (h : Below w.heap.size w U) => hunkN_at x.f2 p.f5 p.f6 X d a A5 a5 A6 a6 U (Kd.C_below hX h) hd (Kd.C_below rp.g5 h) rp.l5 (Kd.C_below rp.g6 h) rp.l6 (by omega) hl (by have:=hq.n5; omega) (by have:=hq.n6; omega)
 rw [← ha] at hA
 obtain ⟨o,ho⟩ : ∃ o,hunkV x.f2 p.f4 p.f5 p.f6 = o:=⟨_,rfl⟩
 rw [ho] at hA hv
 replace hA:=Aside0.mk hA
 clear ho ha k0 k1 h7 hp hq hX hd hl rp
 go_enter Tryz.func65,Tryz.ntmps65
 go_upto_region 1 with (fail)
 obtain ⟨u,hu⟩ : ∃ u,((w.alloc (.cells #[.string x.f0,.int .i64 x.f1,.slice X x.f2.length d,.string x.f3] 41)).alloc (.cells #[.int .i64 p.f0,.string p.f1,.string p.f2,.string p.f3,.int .i64 p.f4,.slice A5 p.f5.length a5,.slice A6 p.f6.length a6] 25)).alloc (.cells #[.string ⟨#[]⟩,.int .i64 0,.slice none 0 0,.string ⟨#[]⟩] 41) = u:=⟨_,rfl⟩
 rw [hu] at H0 ⊢
 clear hu
 obtain ⟨x0,x1,x2,x3⟩:=cells4 H0.x
 obtain ⟨b0,b1,b2,b3,b4,b5,b6⟩:=cells7 H0.p
 have hA2:=hA.out u H0.b
 have hul:=blk_lt H0.z
 clear hA
 replace H0:=Aside0.mk H0
 replace hul:=Aside0.mk hul
 go_upto_region 7 with (go_at_call 37; refine hA2.mono ?_; rintro e u2 ⟨hb2,v,rfl,hn,hN⟩)
 clear x0 x1 x2 x3 b0 b1 b2 b3 b4 b5 b6 hA2
 have H2:=H0.out.later hb2
 have hform : ∃ Y dy M,v = .slice Y M.length dy ∧ (∀ L,o = some L → L = M ∧ M.length ≤ dy ∧ ∀ V : World,(∀ k,u.heap.size ≤ k → V.heap[k]? = u2.heap[k]?) → Kd.string.C V Y M.length M):=by
  cases o with
  | none => exact ⟨none,0,[],hn rfl,fun L h => by cases h⟩
  | some M =>
   obtain ⟨Y,dy,rfl,hdy,hC⟩:=N_strC (hN M rfl)
   exact ⟨Y,dy,M,rfl,fun L h => by cases h; exact ⟨rfl,hdy,fun V hV => hC V (fun k h1 h2 => hV k h1)⟩⟩
 obtain ⟨Y,dy,M,rfl,hY⟩:=hform
 replace hY:=Aside0.mk hY
 clear hn hN hb2
 obtain ⟨x0,x1,x2,x3⟩:=cells4 H2.x
 have hf2:=blk_frozen H2.x 2
 have H1:=H2.put 2 (.slice Y M.length dy)
 have hY2 : Aside0 (∀ k,u.heap.size ≤ k → (u2.setCell ⟨w.heap.size,2,none⟩ (.slice Y M.length dy)).heap[k]? = u2.heap[k]?):=⟨fun k hk => far1 _ _ _ _ (by have:=hul.out; omega)⟩
 generalize hV : u2.setCell ⟨w.heap.size,2,none⟩ (.slice Y M.length dy) = V at H1 hY2
 go_upto_region 8 with (fail)
 try rw [hV]
 clear x0 x1 x2 x3 hf2 hV H2 H0
 have H1' : Bx w #[.string x.f0,.int .i64 x.f1,.slice Y M.length dy,.string x.f3] #[.int .i64 p.f0,.string p.f1,.string p.f2,.string p.f3,.int .i64 p.f4,.slice A5 p.f5.length a5,.slice A6 p.f6.length a6] #[.string ⟨#[]⟩,.int .i64 0,.slice none 0 0,.string ⟨#[]⟩] V:=H1
 clear H1
 obtain ⟨x0,x1,x2,x3⟩:=cells4 H1'.x
 obtain ⟨z0,z1,z2,z3⟩:=cells4 H1'.z
 have f0:=blk_frozen H1'.z 0
 have f1:=blk_frozen H1'.z 1
 have f2:=blk_frozen H1'.z 2
 have f3:=blk_frozen H1'.z 3
 have HP:=put4 H1'.z (.string x.f0) (.int .i64 x.f1) (.slice Y M.length dy) (.string x.f3)
 have HB:=below4 H1'.b (show w.heap.size ≤ w.heap.size + 1 + 1 by omega) (.string x.f0) (.int .i64 x.f1) (.slice Y M.length dy) (.string x.f3)
 have hY3 : Aside0 (∀ k,u.heap.size ≤ k → _ = u2.heap[k]?):=⟨fun k hk => (far4 V (w.heap.size + 1 + 1) (.string x.f0) (.int .i64 x.f1) (.slice Y M.length dy) (.string x.f3) (k:=k) (by have:=hul.out; omega)).trans (hY2.out k hk)⟩
 replace HP:=Aside0.mk HP
 replace HB:=Aside0.mk HB
 replace H1':=Aside0.mk H1'
 clear hY2
 go_wp2
 refine bodyPost_ret (results_ct rfl _ _ (w.heap.size + 1 + 1) 41 #[.string x.f0,.int .i64 x.f1,.slice Y M.length dy,.string x.f3] (0,0) _ rfl HP.out Tryz.underlying41 rfl (by kernel_rfl)) rfl ?_
 refine ansC (y:={ x with f2:=M }) hv.out (by cases o <;> rfl) HB.out ?_
 intro z hz
 cases o with
 | none => cases hz
 | some L =>
  obtain ⟨k1,k2,k3⟩:=hY.out L rfl
  subst k1
  exact ⟨(Option.some.inj hz).symm,k2,k3 _ hY3.out⟩
theorem pv_mem {s t : ByteArray} : t ∈ piecesV s ↔ t.data.toList ∈ runs s.data.toList:=by
 unfold piecesV
 rw [List.mem_map]
 constructor
 ·rintro ⟨r,hr,e⟩
  rw [← e]
  exact hr
 ·intro h
  exact ⟨_,h,data_inj rfl⟩
theorem tok_none {l : List ByteArray} {fr to_ s : ByteArray} (hs : s ∈ l) (h : to_ ∈ piecesV s) : tokV l fr to_ = none:=by
 unfold tokV
 rw [if_pos (List.any_eq_true.2 ⟨s,hs,(pieces_has s to_).2 (pv_mem.1 h)⟩)]
set_option maxHeartbeats 16000000 in
set_option maxRecDepth 1000000 in
theorem tokensC_at (x : S41) (X : Option Addr) (d : Nat) (p : S25) (A5 : Option Addr) (a5 : Nat) (A6 : Option Addr) (a6 : Nat) (w : World) (h8 : p.f0 = 8) (hp : primB p = true) (hq : SmallQ p) (hX : Kd.string.C w X x.f2.length x.f2) (hd : x.f2.length ≤ d) (hl : x.f2.length ≤ 100000000) (hs : ∀ s ∈ x.f2,Lr s) :
  Calls Tryz.prog 65 #[.agg #[.string x.f0,.int .i64 x.f1,.slice X x.f2.length d,.string x.f3],.agg #[.int .i64 p.f0,.string p.f1,.string p.f2,.string p.f3,.int .i64 p.f4,.slice A5 p.f5.length a5,.slice A6 p.f6.length a6]] w (AnsC w x p):=by
 have H0:=Bx.start w #[.string x.f0,.int .i64 x.f1,.slice X x.f2.length d,.string x.f3] #[.int .i64 p.f0,.string p.f1,.string p.f2,.string p.f3,.int .i64 p.f4,.slice A5 p.f5.length a5,.slice A6 p.f6.length a6] #[.string ⟨#[]⟩,.int .i64 0,.slice none 0 0,.string ⟨#[]⟩]
 have hb9 : (p.f0 == 9) = false:=by rw [h8]; rfl
 have hb7 : (p.f0 == 7) = false:=by rw [h8]; rfl
 have hv : Aside0 (changeV x p = (tokV x.f2 p.f3 p.f2).map (fun l => { x with f2:=l })):=⟨by unfold changeV; rw [if_neg (by omega),if_pos h8]⟩
 have hTk:=fun (s : ByteArray) (h : s ∈ x.f2) (U : World) => tokensR_at s U (by have:=(hs s h).size; omega)
 have hRp:=fun (s : ByteArray) (h : s ∈ x.f2) (U : World) => replaceR_at s p.f3 p.f2 U (hs s h) (by have:=hq.f3; omega) (by have:=hq.f2; omega) (prim_token hp h8).1
 obtain ⟨L,hL⟩ : ∃ L,x.f2 = L:=⟨_,rfl⟩
 have hLs : Aside0 (∀ s ∈ L,Lr s):=⟨by rw [← hL]; exact hs⟩
 rw [hL] at hTk hRp hv
 replace hX:=Aside0.mk hX
 replace hd:=Aside0.mk hd
 have hl2 : Aside0 (L.length ≤ 100000000):=⟨by rw [← hL]; exact hl⟩
 replace hL:=Aside0.mk hL
 replace hTk:=Aside0.mk hTk
 replace hRp:=Aside0.mk hRp
 clear h8 hp hq hs hl
 go_enter Tryz.func65,Tryz.ntmps65
 go_upto_region 1 with (fail)
 obtain ⟨u,hu⟩ : ∃ u,((w.alloc (.cells #[.string x.f0,.int .i64 x.f1,.slice X x.f2.length d,.string x.f3] 41)).alloc (.cells #[.int .i64 p.f0,.string p.f1,.string p.f2,.string p.f3,.int .i64 p.f4,.slice A5 p.f5.length a5,.slice A6 p.f6.length a6] 25)).alloc (.cells #[.string ⟨#[]⟩,.int .i64 0,.slice none 0 0,.string ⟨#[]⟩] 41) = u:=⟨_,rfl⟩
 rw [hu] at H0 ⊢
 clear hu
 have hul:=Aside0.mk (blk_lt H0.z)
 have hXu : Aside0 (Kd.string.C u X L.length L):=⟨by have h:=H0.C hX.out; rw [hL.out] at h; exact h⟩
 obtain ⟨x0,x1,x2,x3⟩:=cells4 H0.x
 obtain ⟨b0,b1,b2,b3,b4,b5,b6⟩:=cells7 H0.p
 rw [show x.f2.length = L.length by rw [hL.out]] at x2 ⊢
 have B0 : Aside0 (Below u.heap.size u u):=⟨Below.refl _ _⟩
 have N0 : Aside0 (Kd.R Kd.string 9 u u.heap.size (fun _ => True) (.slice none 0 0) ((L.take 0).map (fun s => replV s p.f3 p.f2))):=⟨Kd.R_nil _ _ _ _ _⟩
 have T0 : Aside0 (∀ s ∈ L.take 0,p.f2.data.toList ∉ runs s.data.toList):=⟨fun s hs => by cases hs⟩
 replace H0:=Aside0.mk H0
 go_wp2
 clear x0 x1 x2 x3 b0 b1 b2 b3 b4 b5 b6
 go_loopg [9,10,11,12] L.length (fun kx s9 s10 s11 s12 wr => ∃ (i : Nat) (v : Value),v = s9 ∧ s10 = .int .i64 i ∧ i + kx = L.length ∧ Aside0 (Below u.heap.size u wr) ∧ Aside0 (Kd.R Kd.string 9 wr u.heap.size (fun _ => True) v ((L.take i).map (fun s => replV s p.f3 p.f2))) ∧ Aside0 (∀ s ∈ L.take i,p.f2.data.toList ∉ runs s.data.toList))
 case atStart => exact ⟨0,_,rfl,rfl,by omega,B0,N0,T0⟩
 case round =>
  clear B0 N0 T0
  obtain ⟨i,v,rfl,rfl,hi,B1,N1,T1⟩:=hrel
  have H1:=H0.out.later B1.out
  obtain ⟨x0,x1,x2,x3⟩:=cells4 H1.x
  obtain ⟨b0,b1,b2,b3,b4,b5,b6⟩:=cells7 H1.p
  rw [show x.f2.length = L.length by rw [hL.out]] at x2
  by_cases hlt : i < L.length
  ·have hi0 : (0 : Int) ≤ (i : Int):=by omega
   have hi1 : (i : Int) < (L.length : Int):=by omega
   have hdb : decide ((i : Int) < (L.length : Int)) = true:=decide_eq_true hi1
   have hwi : IntKind.i64.wrap ((i : Int) + 1) = ((i + 1 : Nat) : Int):=by have:=hl2.out; rw [wrap_small _ (by omega) (by omega)]; omega
   obtain ⟨ad,rfl,HCU⟩:=Kd.at_string hXu.out (i : Int) hi0 hi1
   have hcl:=pw_cell_below B1.out HCU
   have hcx : L[i] = rdOf ByteArray.empty L (i : Int):=(rdOf_get _ _ hlt).symm
   obtain ⟨s,hs⟩ : ∃ s,rdOf ByteArray.empty L (i : Int) = s:=⟨_,rfl⟩
   rw [hs] at hcl hcx HCU
   rw [Int.toNat_natCast] at hcl HCU
   have hsm : s ∈ L:=by rw [← hcx]; exact List.getElem_mem hlt
   have hT:=hTk.out s hsm wr
   have hR:=hRp.out s hsm
   obtain ⟨tk,htk⟩ : ∃ tk,piecesV s = tk:=⟨_,rfl⟩
   have htl : Aside0 (tk.length ≤ 100000):=⟨by rw [← htk]; unfold piecesV; rw [List.length_map]; exact Nat.le_trans (hLs.out s hsm).n (by decide)⟩
   rw [htk] at hT
   have htake : L.take (i + 1) = L.take i ++ [s]:=by rw [List.take_succ_eq_append_getElem hlt,hcx]
   have hmp : Aside0 ((L.take (i + 1)).map (fun s => replV s p.f3 p.f2) = (L.take i).map (fun s => replV s p.f3 p.f2) ++ [replV s p.f3 p.f2]):=⟨by rw [htake,List.map_append]; rfl⟩
   have hno : Aside0 (p.f2 ∈ tk → tokV L p.f3 p.f2 = none):=⟨fun h => tok_none hsm (by rw [htk]; exact h)⟩
   have hT2 : Aside0 (p.f2 ∉ tk → ∀ z ∈ L.take (i + 1),p.f2.data.toList ∉ runs z.data.toList):=⟨fun h z hz => by
    rw [htake] at hz
    rcases List.mem_append.1 hz with hz | hz
    ·exact T1.out z hz
    ·rw [List.mem_singleton.1 hz]; exact fun k => h (by rw [← htk]; exact pv_mem.2 k)⟩
   have hml : Aside0 (((L.take i).map (fun s => replV s p.f3 p.f2)).length ≤ 100000000):=⟨by have:=hl2.out; rw [List.length_map,List.length_take]; omega⟩
   obtain ⟨o,ho⟩ : ∃ o,(L.take i).map (fun s => replV s p.f3 p.f2) = o:=⟨_,rfl⟩
   rw [ho] at hml hmp N1
   obtain ⟨y,hy⟩ : ∃ y,replV s p.f3 p.f2 = y:=⟨_,rfl⟩
   rw [hy] at hR hmp
   obtain ⟨Av,cv,rfl⟩:=Kd.R_slice N1.out
   replace hR:=Aside0.mk hR
   clear ho hy htake htk hsm hcx hs
   have hcu:=Aside0.mk HCU
   clear HCU
   replace H1:=Aside0.mk H1
   go_upto_region 14 with (go_at_call 109; refine hT.mono ?_; rintro e w2 ⟨vt,rfl,hN,hb2⟩; obtain ⟨At,ct,rfl⟩:=Kd.R_slice hN)
   clear hT x0 x1 x2 x3 b0 b1 b2 b3 b4 b5 b6 hcl
   have B2:=Aside0.mk (B1.out.trans (hb2.mono B1.out.size))
   have N2:=Aside0.mk (Kd.R_below N1.out hb2)
   have K2:=Aside0.mk (Kd.R_below hN (Below.refl _ _))
   clear hN hb2
   have Z0 : Aside0 (∀ t ∈ tk.take 0,t ≠ p.f2):=⟨fun t ht => by cases ht⟩
   go_wp2
   go_loopg [12] tk.length (fun kx s12 wv => ∃ k : Nat,s12 = .int .i64 k ∧ k + kx = tk.length ∧ Aside0 (Below u.heap.size u wv) ∧ Aside0 (Kd.R Kd.string 9 wv u.heap.size (fun _ => True) (.slice Av o.length cv) o) ∧ Aside0 (Kd.R Kd.string 9 wv wr.heap.size (fun _ => True) (.slice At tk.length ct) tk) ∧ Aside0 (∀ t ∈ tk.take k,t ≠ p.f2))
   case atStart => exact ⟨0,rfl,by omega,B2,N2,K2,Z0⟩
   case round =>
    clear B2 N2 K2 Z0
    obtain ⟨k,rfl,hk,B3,N3,K3,Z3⟩:=hrel
    have H3:=H0.out.later B3.out
    obtain ⟨x0,x1,x2,x3⟩:=cells4 H3.x
    obtain ⟨b0,b1,b2,b3,b4,b5,b6⟩:=cells7 H3.p
    rw [show x.f2.length = L.length by rw [hL.out]] at x2
    by_cases hkt : k < tk.length
    ·have hk0 : (0 : Int) ≤ (k : Int):=by omega
     have hk1 : (k : Int) < (tk.length : Int):=by omega
     have hdk : decide ((k : Int) < (tk.length : Int)) = true:=decide_eq_true hk1
     have hwk : IntKind.i64.wrap ((k : Int) + 1) = ((k + 1 : Nat) : Int):=by have:=htl.out; rw [wrap_small _ (by omega) (by omega)]; omega
     obtain ⟨A',c',he,-,hC⟩:=Kd.R_reads K3.out
     injection he with e1 e2 e3
     subst e1
     subst e3
     obtain ⟨at_,rfl,hct⟩:=Kd.at_string hC (k : Int) hk0 hk1
     have hcx : tk[k] = rdOf ByteArray.empty tk (k : Int):=(rdOf_get _ _ hkt).symm
     obtain ⟨t,ht⟩ : ∃ t,rdOf ByteArray.empty tk (k : Int) = t:=⟨_,rfl⟩
     rw [ht] at hct hcx
     rw [Int.toNat_natCast] at hct
     have htm : t ∈ tk:=by rw [← hcx]; exact List.getElem_mem hkt
     have htake : tk.take (k + 1) = tk.take k ++ [t]:=by rw [List.take_succ_eq_append_getElem hkt,hcx]
     by_cases htp : t = p.f2
     ·have hnn:=Aside0.mk (hno.out (by rw [← htp]; exact htm))
      have hbe : (t.toList == p.f2.toList) = true:=by rw [htp]; simp
      have hcb : Aside0 (changeV x p = none):=⟨by rw [hv.out,hnn.out]; rfl⟩
      obtain ⟨z0,z1,z2,z3⟩:=cells4 H3.z
      have f0:=blk_frozen H3.z 0
      have f1:=blk_frozen H3.z 1
      have f2:=blk_frozen H3.z 2
      have f3:=blk_frozen H3.z 3
      have hct2:=Aside0.mk hct
      clear htp htm htake hcx ht hC
      go_upto_region 17 with (fail)
      go_region_held3 (fun U => U.cell? (at_.add k) = some (.string t) ∧ U.cell? ⟨w.heap.size + 1,2,none⟩ = some (.string p.f2)) (exact ⟨hct,b2⟩) (fail)
      have D3:=H3.later (below_drew (Below.refl _ wr))
      clear x0 x1 x2 x3 z0 z1 z2 z3 f0 f1 f2 f3 b0 b1 b2 b3 b4 b5 b6 hct
      generalize World.drew wr = wd at D3 ⊢
      obtain ⟨x0,x1,x2,x3⟩:=cells4 D3.x
      rw [show x.f2.length = L.length by rw [hL.out]] at x2
      obtain ⟨z0,z1,z2,z3⟩:=cells4 D3.z
      have f0:=blk_frozen D3.z 0
      have f1:=blk_frozen D3.z 1
      have f2:=blk_frozen D3.z 2
      have f3:=blk_frozen D3.z 3
      have HP:=put4 D3.z (.string x.f0) (.int .i64 x.f1) (.slice (some ad) L.length d) (.string x.f3)
      have HB:=below4 D3.b (show w.heap.size ≤ w.heap.size + 1 + 1 by omega) (.string x.f0) (.int .i64 x.f1) (.slice (some ad) L.length d) (.string x.f3)
      replace HP:=Aside0.mk HP
      replace HB:=Aside0.mk HB
      replace D3:=Aside0.mk D3
      replace H3:=Aside0.mk H3
      go_wp2
      try simp only [Exit.inBlock,Exit.then]
      refine bodyPost_ret (results_ct rfl _ _ (w.heap.size + 1 + 1) 41 #[.string x.f0,.int .i64 x.f1,.slice (some ad) L.length d,.string x.f3] (0,0) _ rfl HP.out Tryz.underlying41 rfl (by kernel_rfl)) rfl ?_
      have e : L.length = x.f2.length:=by rw [hL.out]
      rw [e]
      exact ansC (y:=x) hcb.out rfl (by have:=HB.out; rw [e] at this; exact this) (fun z hz => by cases hz)
     ·have hbe : (t.toList == p.f2.toList) = false:=by rw [beq_eq_false_iff_ne]; exact fun h => htp (toList_inj h)
      have Z4 : Aside0 (∀ z ∈ tk.take (k + 1),z ≠ p.f2):=⟨fun z hz => by
       rw [htake] at hz
       rcases List.mem_append.1 hz with hz | hz
       ·exact Z3.out z hz
       ·rw [List.mem_singleton.1 hz]; exact htp⟩
      clear htp htm htake hcx ht hC
      go_upto_region 17 with (fail)
      go_region_held3 (fun U => U.cell? (at_.add k) = some (.string t) ∧ U.cell? ⟨w.heap.size + 1,2,none⟩ = some (.string p.f2)) (exact ⟨hct,b2⟩) (fail)
      clear x0 x1 x2 x3 b0 b1 b2 b3 b4 b5 b6 hct
      go_wp2
      go_roundg (tk.length - (k + 1))
      case measure => omega
      case rel => exact ⟨k + 1,by first | rfl | (rw [hwk]),by omega,⟨below_drew B3.out⟩,⟨Kd.R_drew N3.out⟩,⟨Kd.R_drew K3.out⟩,Z4⟩
    ·have hdk : decide ((k : Int) < (tk.length : Int)) = false:=decide_eq_false (by omega)
     have hall : tk.take k = tk:=List.take_of_length_le (by omega)
     rw [hall] at Z3
     have T2:=Aside0.mk (hT2.out (fun h => Z3.out _ h rfl))
     have X0 : Aside0 (u.cell? ⟨w.heap.size,2,none⟩ = some (.slice (some ad) L.length d)):=⟨by have h:=(cells4 H0.out.x).2.2.1; rw [show x.f2.length = L.length by rw [hL.out]] at h; exact h⟩
     have P0:=Aside0.mk (cells7 H0.out.p)
     replace H3:=Aside0.mk H3
     clear x0 x1 x2 x3 b0 b1 b2 b3 b4 b5 b6 hall
     go_upto_region 19 with (fail)
     refine wp_region_held_drew (S:=fun W => Below u.heap.size u W) (by kernel_rfl) (below_drew B3.out) (fun _ => ?_)
     have hS : Below u.heap.size u (World.drew wr):=below_drew B3.out
     have hO:=Kd.R_drew N3.out
     generalize World.drew wr = W at hS hO ⊢
     refine' tkE 0 73 hS ?_ ?_; rotate_left
     ·intro W' hSW; go_simp; (try with_reducible rfl)
     refine' tkE 1 74 hS ?_ ?_; rotate_left
     ·intro W' hSW; go_simp; (try with_reducible rfl)
     refine' tkE 2 75 hS ?_ ?_; rotate_left
     ·intro W' hSW; have q0:=pw_cell_below hSW X0.out; have q1:=pw_cell_below hSW hcu.out; have q2:=pw_cell_below hSW P0.out.2.2.1; have q3:=pw_cell_below hSW P0.out.2.2.2.1; go_simp; (try with_reducible rfl)
     refine' tkE 3 76 hS ?_ ?_; rotate_left
     ·intro W' hSW; go_simp; (try with_reducible rfl)
     refine' tkE 4 77 hS ?_ ?_; rotate_left
     ·intro W' hSW; go_simp; (try with_reducible rfl)
     refine' tkE 5 78 hS ?_ ?_; rotate_left
     ·intro W' hSW; have q0:=pw_cell_below hSW X0.out; have q1:=pw_cell_below hSW hcu.out; have q2:=pw_cell_below hSW P0.out.2.2.1; have q3:=pw_cell_below hSW P0.out.2.2.2.1; go_simp; (try with_reducible rfl)
     refine' tkE 6 79 hS ?_ ?_; rotate_left
     ·intro W' hSW; go_simp; (try with_reducible rfl)
     refine' tkE 7 80 hS ?_ ?_; rotate_left
     ·intro W' hSW; have q0:=pw_cell_below hSW X0.out; have q1:=pw_cell_below hSW hcu.out; have q2:=pw_cell_below hSW P0.out.2.2.1; have q3:=pw_cell_below hSW P0.out.2.2.2.1; go_simp; (try with_reducible rfl)
     refine' tkE 8 81 hS ?_ ?_; rotate_left
     ·intro W' hSW; go_simp; (try with_reducible rfl)
     refine' tkE 9 82 hS ?_ ?_; rotate_left
     ·intro W' hSW; have q0:=pw_cell_below hSW X0.out; have q1:=pw_cell_below hSW hcu.out; have q2:=pw_cell_below hSW P0.out.2.2.1; have q3:=pw_cell_below hSW P0.out.2.2.2.1; go_simp; (try with_reducible rfl)
     simp only [Act.put,List.setIfInBounds_toArray,List.set_cons_zero,List.set_cons_succ]
     refine wpAnyH_ready (rs:=[10]) (by kernel_rfl) (by simp) (AllReadyH.cons rfl (fun K hK => ?_) AllReadyH.nil)
     go_simp
     refine (hR.out _).mono ?_
     rintro e W2 ⟨rfl,hb⟩
     have hO2:=Kd.R_below hO hb
     replace hS:=hS.trans (hb.mono hS.size)
     refine hK.out _ _ hS (fun _ => ?_)
     clear hK K hO hb
     refine wpAnyH_ready (rs:=[11]) (by kernel_rfl) (by simp) (AllReadyH.cons rfl (fun K hK => ?_) AllReadyH.nil)
     go_simp
     refine hK.out _ _ (hS.alloc hS.size (.cells #[.string y] 9)) (fun _ => ?_)
     clear hK K
     refine wpAnyH_ready (rs:=[12]) (by kernel_rfl) (by simp) (AllReadyH.cons rfl (fun K hK => ?_) AllReadyH.nil)
     refine Kd.R_append_step Kd.string (w0:=u) u.heap.size rfl (.tmp 73) (.tmp 84) 23 9 (.string ⟨#[]⟩) 16 rfl Tryz.underlying23 infoS rfl (by decide) (by omega) (.slice Av o.length cv) o y [.string y] (fun _ => True) (fun _ => False) rfl rfl rfl (fun _ hk => hk.elim) (fun _ _ => trivial) hO2 hS hS.size (by have:=hml.out; omega) ?_
     intro v1 y1 hN1 hB1 hg1 hat1
     replace hS:=hB1
     refine hK.out _ _ hS (fun _ => ?_)
     clear hK K hO2 hg1 hat1
     replace hN1:=Aside0.mk hN1
     replace hB1:=Aside0.mk hB1
     refine' tkE 13 9 hS ?_ ?_; rotate_left
     ·intro W' hSW; go_simp; (try with_reducible rfl)
     simp only [Act.put,List.setIfInBounds_toArray,List.set_cons_zero,List.set_cons_succ]
     refine wpAnyH_done (by kernel_rfl) ?_ _
     clear hS
     go_wp2
     go_roundg (L.length - (i + 1))
     case measure => omega
     case rel => exact ⟨i + 1,_,rfl,by first | rfl | (rw [hwi]),by omega,hB1,⟨by rw [hmp.out]; exact hN1.out⟩,T2⟩
  ·have hdb : decide ((i : Int) < (L.length : Int)) = false:=decide_eq_false (by omega)
   have hall : L.take i = L:=List.take_of_length_le (by omega)
   rw [hall] at N1 T1
   have hcb : Aside0 (changeV x p = some { x with f2:=L.map (fun s => replV s p.f3 p.f2) }):=⟨by rw [hv.out,tok_of T1.out]; rfl⟩
   obtain ⟨M,hM⟩ : ∃ M,L.map (fun s => replV s p.f3 p.f2) = M:=⟨_,rfl⟩
   rw [hM] at N1 hcb
   obtain ⟨Y,dy,rfl,hdy,hC⟩:=N_strC (Kd.R_N N1.out)
   have hf2:=blk_frozen H1.x 2
   have H4:=H1.put 2 (.slice Y M.length dy)
   have hY2 : Aside0 (∀ k,u.heap.size ≤ k → (wr.setCell ⟨w.heap.size,2,none⟩ (.slice Y M.length dy)).heap[k]? = wr.heap[k]?):=⟨fun k hk => far1 _ _ _ _ (by have:=hul.out; omega)⟩
   replace hC:=Aside0.mk hC
   replace hdy:=Aside0.mk hdy
   replace H1:=Aside0.mk H1
   clear hall hM
   generalize hV : wr.setCell ⟨w.heap.size,2,none⟩ (.slice Y M.length dy) = V at H4 hY2
   go_upto_region 21 with (fail)
   try rw [hV]
   clear x0 x1 x2 x3 b0 b1 b2 b3 b4 b5 b6 hf2 hV
   have H4' : Bx w #[.string x.f0,.int .i64 x.f1,.slice Y M.length dy,.string x.f3] #[.int .i64 p.f0,.string p.f1,.string p.f2,.string p.f3,.int .i64 p.f4,.slice A5 p.f5.length a5,.slice A6 p.f6.length a6] #[.string ⟨#[]⟩,.int .i64 0,.slice none 0 0,.string ⟨#[]⟩] V:=H4
   clear H4
   obtain ⟨x0,x1,x2,x3⟩:=cells4 H4'.x
   obtain ⟨z0,z1,z2,z3⟩:=cells4 H4'.z
   have f0:=blk_frozen H4'.z 0
   have f1:=blk_frozen H4'.z 1
   have f2:=blk_frozen H4'.z 2
   have f3:=blk_frozen H4'.z 3
   have HP:=put4 H4'.z (.string x.f0) (.int .i64 x.f1) (.slice Y M.length dy) (.string x.f3)
   have HB:=below4 H4'.b (show w.heap.size ≤ w.heap.size + 1 + 1 by omega) (.string x.f0) (.int .i64 x.f1) (.slice Y M.length dy) (.string x.f3)
   have hY3 : Aside0 (∀ k,u.heap.size ≤ k → _ = wr.heap[k]?):=⟨fun k hk => (far4 V (w.heap.size + 1 + 1) (.string x.f0) (.int .i64 x.f1) (.slice Y M.length dy) (.string x.f3) (k:=k) (by have:=hul.out; omega)).trans (hY2.out k hk)⟩
   replace HP:=Aside0.mk HP
   replace HB:=Aside0.mk HB
   replace H4':=Aside0.mk H4'
   clear hY2
   go_wp2
   refine bodyPost_ret (results_ct rfl _ _ (w.heap.size + 1 + 1) 41 #[.string x.f0,.int .i64 x.f1,.slice Y M.length dy,.string x.f3] (0,0) _ rfl HP.out Tryz.underlying41 rfl (by kernel_rfl)) rfl ?_
   refine ansC (y:={ x with f2:=M }) hcb.out rfl HB.out ?_
   intro z hz
   exact ⟨(Option.some.inj hz).symm,hdy.out,hC.out _ (fun k h1 h2 => hY3.out k h1)⟩
def AnsR (w : World) (M : List S41) (E : Int) (e : Ending) (w' : World) : Prop :=
 ∃ S,e = .returned (.tuple #[S,.int .i64 E]) ∧ Below w.heap.size w w' ∧ (E = 0 → ∃ A c,S = .slice A M.length c ∧ M.length ≤ c ∧ Kd.C k41 w' A M.length M) ∧ (E ≠ 0 → S = .slice none 0 0)
theorem ansR_err {w w' : World} {M : List S41} {E : Int} (h : E ≠ 0) (hb : Below w.heap.size w w') : AnsR w M E (.returned (.tuple #[.slice none 0 0,.int .i64 E])) w':=⟨_,rfl,hb,fun k => absurd k h,fun _ => rfl⟩
theorem ansR_row {w w' : World} {M : List S41} {v : Value} {b : Nat} {ok : Nat → Prop} (h : Kd.N k41 41 w' b ok v M) (hb : Below w.heap.size w w') : AnsR w M 0 (.returned (.tuple #[v,.int .i64 0])) w':=by
 obtain ⟨A,c,rfl,hc,hC⟩:=Kd.N_reads h
 exact ⟨_,rfl,hb,fun _ => ⟨A,c,rfl,hc,hC⟩,fun k => absurd rfl k⟩
theorem room_one (l : List S41) (s : ByteArray) : roomV l s = 0 ∨ roomV l s = 71 ∨ roomV l s = 72 ∨ roomV l s = 73:=by
 unfold roomV
 split
 ·exact .inr (.inl rfl)
 ·split
  ·exact .inl rfl
  ·split
   ·exact .inr (.inr (.inl rfl))
   ·split
    ·exact .inl rfl
    ·exact .inr (.inr (.inr rfl))
set_option maxHeartbeats 8000000 in
set_option maxRecDepth 1000000 in
theorem moveR_at (l : List S41) (A : Option Addr) (c : Nat) (p : S25) (A5 : Option Addr) (a5 : Nat) (A6 : Option Addr) (a6 : Nat) (w : World) (hr : Kd.C k41 w A l.length l) (hc : l.length ≤ c) (ht : Tr l) (hp : primB p = true) (h10 : p.f0 = 10) :
  Calls Tryz.prog 59 #[.slice A l.length c,.agg #[.int .i64 p.f0,.string p.f1,.string p.f2,.string p.f3,.int .i64 p.f4,.slice A5 p.f5.length a5,.slice A6 p.f6.length a6]] w (AnsR w (moveL l p) (moveE l p)):=by
 have hn : l.length ≤ 1024:=ht.n
 have z1 : p.f1.size ≤ 136:=right_size (prim_path hp)
 have z2 : p.f2.size ≤ 136:=right_size (prim_move hp h10).1
 have hsz : Aside0 (∀ x ∈ l,x.f0.size ≤ 136):=⟨fun x hx => right_size (thing_path (ht.t x hx))⟩
 have hF:=find_at l A c p.f1 w hr hc (by omega)
 have hR:=fun U (h : Below w.heap.size w U) => roomR_at l A c p.f2 U (Kd.C_below hr h) hc (by omega) (by omega)
 have hr1:=room_one l p.f2
 have hE : Aside0 (moveE l p = if (findV l p.f1).isSome then (if roomV l p.f2 = 0 then (if l.all (fun x => rightB (mvP x.f0 p.f1 p.f2)) then 0 else 41) else roomV l p.f2) else 72):=⟨rfl⟩
 have hM : Aside0 (moveL l p = sortV (l.map (mvX p.f1 p.f2))):=⟨rfl⟩
 have hD : Aside0 (roomV l p.f2 = 0 → sortR (l.map (mvX p.f1 p.f2)) = sortV (l.map (mvX p.f1 p.f2))):=⟨fun h => sortR_sortV (move_dis ht.s (ht.none_within (room_zero.mp h).1))⟩
 obtain ⟨E,hEE⟩ : ∃ E,moveE l p = E:=⟨_,rfl⟩
 obtain ⟨M,hMM⟩ : ∃ M,moveL l p = M:=⟨_,rfl⟩
 rw [hEE] at hE ⊢
 rw [hMM] at hM ⊢
 obtain ⟨r,hrr⟩ : ∃ r,roomV l p.f2 = r:=⟨_,rfl⟩
 rw [hrr] at hR hr1 hE hD
 obtain ⟨t,htt⟩ : ∃ t,thingAt l p.f1 = t:=⟨_,rfl⟩
 rw [htt] at hF
 clear htt hrr hMM hEE ht hp h10
 replace hr:=Aside0.mk hr
 replace hc:=Aside0.mk hc
 replace hn:=Aside0.mk hn
 replace z1:=Aside0.mk z1
 replace z2:=Aside0.mk z2
 replace hR:=Aside0.mk hR
 have HB : Aside0 (Below w.heap.size w (w.alloc (.cells #[.int .i64 p.f0,.string p.f1,.string p.f2,.string p.f3,.int .i64 p.f4,.slice A5 p.f5.length a5,.slice A6 p.f6.length a6] 25))):=⟨below_alloc (Below.refl _ _) _⟩
 have HX : Aside0 ((w.alloc (.cells #[.int .i64 p.f0,.string p.f1,.string p.f2,.string p.f3,.int .i64 p.f4,.slice A5 p.f5.length a5,.slice A6 p.f6.length a6] 25)).heap[w.heap.size]? = some (.cells #[.int .i64 p.f0,.string p.f1,.string p.f2,.string p.f3,.int .i64 p.f4,.slice A5 p.f5.length a5,.slice A6 p.f6.length a6] 25 (0,0))):=⟨blk_new _ _⟩
 obtain ⟨b0,b1,b2,b3,b4,b5,b6⟩:=cells7 HX.out
 obtain ⟨f,hff⟩ : ∃ f,(findV l p.f1).isSome = f:=⟨_,rfl⟩
 rw [hff] at hF hE
 clear hff
 cases f with
 | false =>
  rw [if_neg (by decide)] at hE
  go_enter Tryz.func59,Tryz.ntmps59
  go_wp2_with (fail)
  refine (hF _ HB.out).mono ?_
  rintro e w1 ⟨X0,d0,rfl,-,-,hb1⟩
  have hw1:=HB.out.trans (hb1.mono HB.out.size)
  go_wp2
  go_ret2
  rw [hE.out]
  exact ansR_err (by decide) (hw1.alloc hw1.size _)
 | true =>
  rw [if_pos rfl] at hE
  go_enter Tryz.func59,Tryz.ntmps59
  go_upto_region 2 with (go_at_call 33; refine (hF _ HB.out).mono ?_; rintro e w1 ⟨X0,d0,rfl,-,-,hb1⟩)
  obtain ⟨u1,hu1⟩ : ∃ u1,w1.alloc (.cells #[.string t.f0,.int .i64 t.f1,.slice X0 t.f2.length d0,.string t.f3] 41) = u1:=⟨_,rfl⟩
  have hw1 : Below w.heap.size w u1:=by rw [← hu1]; exact (HB.out.trans (hb1.mono HB.out.size)).alloc (HB.out.trans (hb1.mono HB.out.size)).size _
  have x1 : u1.heap[w.heap.size]? = some (.cells #[.int .i64 p.f0,.string p.f1,.string p.f2,.string p.f3,.int .i64 p.f4,.slice A5 p.f5.length a5,.slice A6 p.f6.length a6] 25 (0,0)):=by rw [← hu1]; exact blk_alloc (blk_below HX.out hb1) _
  rw [hu1]
  clear hu1 hb1 b0 b1 b2 b3 b4 b5 b6 hF
  obtain ⟨b0,b1,b2,b3,b4,b5,b6⟩:=cells7 x1
  have hR1:=hR.out u1 hw1
  clear hR
  go_upto_region 5 with (go_at_call 61; refine hR1.mono ?_; rintro e w2 ⟨rfl,hb2⟩)
  have hw2 : Below w.heap.size w w2:=hw1.trans (hb2.mono hw1.size)
  have x2:=Aside0.mk (blk_below x1 hb2)
  clear hb2 b0 b1 b2 b3 b4 b5 b6 x1 hR1 hw1
  by_cases hr0 : r = 0
  ·subst hr0
   rw [if_pos rfl] at hE
   have hD2:=Aside0.mk (hD.out rfl)
   clear hD hr1
   have B0 : Aside0 (Below w2.heap.size w2 w2):=⟨Below.refl _ _⟩
   have N0 : Aside0 (Kd.N k41 41 w2 w2.heap.size (fun _ => True) (.slice none 0 0) ((l.take 0).map (mvX p.f1 p.f2))):=⟨Kd.N_nil _ _ _ _ _⟩
   have R0 : Aside0 (∀ x ∈ l.take 0,rightB (mvP x.f0 p.f1 p.f2) = true):=⟨fun x hx => by cases hx⟩
   replace hw2:=Aside0.mk hw2
   go_wp2
   go_loopg [9,10] l.length (fun kx s9 s10 wr => ∃ (i : Nat) (v : Value),v = s9 ∧ s10 = .int .i64 i ∧ i + kx = l.length ∧ Aside0 (Below w2.heap.size w2 wr) ∧ Aside0 (Kd.N k41 41 wr w2.heap.size (fun _ => True) v ((l.take i).map (mvX p.f1 p.f2))) ∧ Aside0 (∀ x ∈ l.take i,rightB (mvP x.f0 p.f1 p.f2) = true))
   case atStart => exact ⟨0,_,rfl,rfl,by omega,B0,N0,R0⟩
   case round =>
    clear B0 N0 R0
    obtain ⟨i,v,rfl,rfl,hi,B1,N1,R1⟩:=hrel
    have hwr : Aside0 (Below w.heap.size w wr):=⟨hw2.out.trans (B1.out.mono hw2.out.size)⟩
    by_cases hlt : i < l.length
    ·have hi0 : (0 : Int) ≤ (i : Int):=by omega
     have hi1 : (i : Int) < (l.length : Int):=by omega
     have hdb : decide ((i : Int) < (l.length : Int)) = true:=decide_eq_true hi1
     have hwi : IntKind.i64.wrap ((i : Int) + 1) = ((i + 1 : Nat) : Int):=by have:=hn.out; rw [wrap_small _ (by omega) (by omega)]; omega
     obtain ⟨ad,X,d,rfl,rx2,q0,q1,q2,q3⟩:=ent_at (Kd.C_below hr.out hw2.out) i hlt rfl
     replace q0:=pw_cell_below B1.out q0
     replace q1:=pw_cell_below B1.out q1
     replace q2:=pw_cell_below B1.out q2
     replace q3:=pw_cell_below B1.out q3
     obtain ⟨x,hx⟩ : ∃ x,l.getD i z41 = x:=⟨_,rfl⟩
     rw [hx] at rx2 q0 q1 q2 q3
     have hxi : l[i] = x:=by rw [← hx,getD_get hlt]
     have hxm : x ∈ l:=by rw [← hxi]; exact List.getElem_mem hlt
     have hxz:=hsz.out x hxm
     have hMv:=fun U => movedR_at x.f0 p.f1 p.f2 U (by have:=z2.out; omega)
     obtain ⟨y,hy⟩ : ∃ y,mvP x.f0 p.f1 p.f2 = y:=⟨_,rfl⟩
     have hyz : Aside0 (y.size ≤ 272):=⟨by
      rw [← hy]
      unfold mvP
      split
      ·unfold mv
       have:=z2.out
       rw [ByteArray.size_append,ByteArray.size_extract]
       omega
      ·omega⟩
     have hRt:=fun U => rightR_at y (by have:=hyz.out; omega) U
     have htk : l.take (i + 1) = l.take i ++ [x]:=by rw [List.take_succ_eq_append_getElem hlt,hxi]
     have hmp : Aside0 ((l.take (i + 1)).map (mvX p.f1 p.f2) = (l.take i).map (mvX p.f1 p.f2) ++ [mvX p.f1 p.f2 x]):=⟨by rw [htk,List.map_append]; rfl⟩
     have hR2 : Aside0 (rightB y = true → ∀ z ∈ l.take (i + 1),rightB (mvP z.f0 p.f1 p.f2) = true):=⟨fun h z hz => by
      rw [htk] at hz
      rcases List.mem_append.1 hz with hz | hz
      ·exact R1.out z hz
      ·rw [List.mem_singleton.1 hz,hy]; exact h⟩
     have hE41 : Aside0 (rightB y = false → E = 41):=⟨fun h => by
      rw [hE.out,if_neg]
      intro k
      have:=List.all_eq_true.1 k x hxm
      rw [hy,h] at this
      cases this⟩
     have hxe : Aside0 (mvX p.f1 p.f2 x = { x with f0:=y }):=⟨by unfold mvX; rw [hy]⟩
     have hml : Aside0 (((l.take i).map (mvX p.f1 p.f2)).length ≤ 1024):=⟨by have:=hn.out; rw [List.length_map,List.length_take]; omega⟩
     obtain ⟨o,ho⟩ : ∃ o,(l.take i).map (mvX p.f1 p.f2) = o:=⟨_,rfl⟩
     rw [ho] at hml hmp N1
     have hFs : Aside0 (Kd.F Kd.string wr (fun k => k < w2.heap.size) X x.f2.length x.f2):=⟨Kd.F_below (Kd.C_F Kd.heap_string rx2.g) B1.out⟩
     have hrl:=Aside0.mk rx2.l
     obtain ⟨b,hb⟩ : ∃ b,rightB y = b:=⟨_,rfl⟩
     rw [hb] at hRt hR2 hE41
     obtain ⟨b0,b1,b2,b3,b4,b5,b6⟩:=cells7 (blk_below x2.out B1.out)
     clear hx hxi hxm htk ho hb rx2 hxz b0 b3 b4 b5 b6
     have xx:=blk_new wr (.cells #[.string x.f0,.int .i64 x.f1,.slice X x.f2.length d,.string x.f3] 41)
     have hBx : Below wr.heap.size wr (wr.alloc (.cells #[.string x.f0,.int .i64 x.f1,.slice X x.f2.length d,.string x.f3] 41)):=below_alloc (Below.refl _ _) _
     replace hRt:=Aside0.mk hRt
     go_upto_region 12 with (fail)
     clear q0 q1 q2 q3
     have c1:=pw_cell_below hBx b1
     have c2:=pw_cell_below hBx b2
     obtain ⟨t0,t1,t2,t3⟩:=cells4 xx
     clear b1 b2
     cases hw : withinB x.f0 p.f1 with
     | true =>
      rw [hw] at hMv
      have hy2 : y = mv x.f0 p.f1 p.f2:=by rw [← hy,mvP_in _ hw]
      have hMv2 : ∀ U,Calls Tryz.prog 34 #[.string x.f0,.string p.f1,.string p.f2] U fun e w' => e = .returned (.tuple #[.string y,.bool true]) ∧ Below U.heap.size U w':=fun U => by have h3:=hMv U; rw [if_pos rfl,← hy2] at h3; exact h3
      clear hMv hy hw hy2
      go_upto_region 13 with (go_at_call 34; refine (hMv2 _).mono ?_; rintro e v1 ⟨rfl,hc1⟩)
      clear t0 t1 t2 t3 c1 c2
      have xy:=blk_below xx hc1
      have hv1 : Below wr.heap.size wr v1:=hBx.trans (hc1.mono hBx.size)
      clear hc1 hMv2 xx hBx
      obtain ⟨t0,t1,t2,t3⟩:=cells4 xy
      have hv2 : Below wr.heap.size wr (v1.setCell ⟨wr.heap.size,0,none⟩ (.string y)):=below_setCell4 hv1 (Nat.le_refl _)
      have xy2 : (v1.setCell ⟨wr.heap.size,0,none⟩ (.string y)).heap[wr.heap.size]? = some (.cells #[.string y,.int .i64 x.f1,.slice X x.f2.length d,.string x.f3] 41 (0,0)):=blk_set xy 0 _
      have hf0:=blk_frozen xy 0
      generalize hV : v1.setCell ⟨wr.heap.size,0,none⟩ (.string y) = v2 at hv2 xy2
      go_upto_region 15 with (fail)
      try rw [hV]
      clear t0 t1 t2 t3 xy hf0 hV hv1
      obtain ⟨t0,t1,t2,t3⟩:=cells4 xy2
      have hRt2:=hRt.out v2
      clear hRt
      cases b with
      | false =>
       have hE2:=Aside0.mk (hE41.out rfl)
       go_wp2_with (fail)
       refine hRt2.mono ?_
       rintro e v3 ⟨rfl,hc3⟩
       have hv3 : Below w.heap.size w v3:=hwr.out.trans ((hv2.trans (hc3.mono hv2.size)).mono hwr.out.size)
       clear t0 t1 t2 t3
       go_wp2
       go_ret2
       rw [hE2.out]
       exact ansR_err (by decide) hv3
      | true =>
       have hR3:=Aside0.mk (hR2.out rfl)
       go_wp2_with (fail)
       refine hRt2.mono ?_
       rintro e v3 ⟨rfl,hc3⟩
       clear t0 t1 t2 t3
       have xy3:=blk_below xy2 hc3
       have hv3 : Below wr.heap.size wr v3:=hv2.trans (hc3.mono hv2.size)
       obtain ⟨t0,t1,t2,t3⟩:=cells4 xy3
       have hFK : Aside0 (Kd.FK k41 v3 (fun k => k < w2.heap.size) { x with f0:=y } [.string y,.int .i64 x.f1,.slice X x.f2.length d,.string x.f3]):=⟨k41_mkF v3 _ { x with f0:=y } hrl.out (Kd.F_below hFs.out hv3)⟩
       have N3:=Aside0.mk (Kd.N_below N1.out hv3)
       have B3:=Aside0.mk (B1.out.trans (hv3.mono B1.out.size))
       have okp : Aside0 (∀ k,k < w2.heap.size → True ∧ some k ≠ v.ownBlock):=⟨fun k hk => ⟨trivial,fun e => absurd (Kd.N_base N3.out k e.symm) (by omega)⟩⟩
       clear hv3 hc3
       go_wp2_with ((((with_reducible refine gate_builtin (b:=.append) (xs:=#[.tmp 57,.tmp 59]) rfl ?_); at_builtin; refine Kd.N_append k41 (w0:=w2) w2.heap.size rfl (.tmp 57) (.tmp 59) 22 41 (.agg #[(.string ⟨#[]⟩),(.int .i64 0),(.slice none 0 0),(.string ⟨#[]⟩)]) 64 rfl Tryz.underlying22 info41 rfl (by decide) (by omega) v o { x with f0:=y } [.string y,.int .i64 x.f1,.slice X x.f2.length d,.string x.f3] (fun _ => True) (fun k => k < w2.heap.size) rfl rfl ?aP ?aK (fun _ _ => trivial) ?aO ?aB ?aS ?aL ?_; (case aP => exact hFK.out); (case aK => exact okp.out); (case aO => exact N3.out); (case aB => exact B3.out); (case aS => exact B3.out.size); (case aL => have:=hml.out; omega); intro v1 y1 hN1 hB1 hg_ hat_; replace hN1:=Aside0.mk hN1; replace hB1:=Aside0.mk hB1; clear hg_ hat_)))
       go_roundg (l.length - (i + 1))
       case measure => omega
       case rel => exact ⟨i + 1,_,rfl,by first | rfl | (rw [hwi]),by omega,hB1,⟨by rw [hmp.out,hxe.out]; exact hN1.out⟩,hR3⟩
     | false =>
      rw [hw] at hMv
      have hy2 : y = x.f0:=by rw [← hy,mvP_out _ hw]
      have hMv2 : ∀ U,Calls Tryz.prog 34 #[.string x.f0,.string p.f1,.string p.f2] U fun e w' => e = .returned (.tuple #[.string e0,.bool false]) ∧ Below U.heap.size U w':=fun U => by have h3:=hMv U; rw [if_neg (by decide)] at h3; exact h3
      clear hMv hy hw
      go_upto_region 13 with (go_at_call 34; refine (hMv2 _).mono ?_; rintro e v1 ⟨rfl,hc1⟩)
      clear t0 t1 t2 t3 c1 c2
      have xy:=blk_below xx hc1
      have hv1 : Below wr.heap.size wr v1:=hBx.trans (hc1.mono hBx.size)
      clear hc1 hMv2 xx hBx
      obtain ⟨t0,t1,t2,t3⟩:=cells4 xy
      go_upto_region 15 with (fail)
      rw [← hy2] at xy t0
      have hv2:=hv1
      have xy2:=xy
      clear hv1 xy
      have hRt2:=hRt.out v1
      clear hRt
      rw [hy2] at hRt2 t0
      cases b with
      | false =>
       have hE2:=Aside0.mk (hE41.out rfl)
       go_wp2_with (fail)
       refine hRt2.mono ?_
       rintro e v3 ⟨rfl,hc3⟩
       have hv3 : Below w.heap.size w v3:=hwr.out.trans ((hv2.trans (hc3.mono hv2.size)).mono hwr.out.size)
       clear t0 t1 t2 t3
       go_wp2
       go_ret2
       rw [hE2.out]
       exact ansR_err (by decide) hv3
      | true =>
       have hR3:=Aside0.mk (hR2.out rfl)
       go_wp2_with (fail)
       refine hRt2.mono ?_
       rintro e v3 ⟨rfl,hc3⟩
       clear t0 t1 t2 t3
       have xy3:=blk_below xy2 hc3
       have hv3 : Below wr.heap.size wr v3:=hv2.trans (hc3.mono hv2.size)
       rw [hy2] at xy3
       obtain ⟨t0,t1,t2,t3⟩:=cells4 xy3
       have hFK : Aside0 (Kd.FK k41 v3 (fun k => k < w2.heap.size) { x with f0:=y } [.string y,.int .i64 x.f1,.slice X x.f2.length d,.string x.f3]):=⟨k41_mkF v3 _ { x with f0:=y } hrl.out (Kd.F_below hFs.out hv3)⟩
       have N3:=Aside0.mk (Kd.N_below N1.out hv3)
       have B3:=Aside0.mk (B1.out.trans (hv3.mono B1.out.size))
       have okp : Aside0 (∀ k,k < w2.heap.size → True ∧ some k ≠ v.ownBlock):=⟨fun k hk => ⟨trivial,fun e => absurd (Kd.N_base N3.out k e.symm) (by omega)⟩⟩
       clear hv3 hc3
       subst hy2
       go_wp2_with ((((with_reducible refine gate_builtin (b:=.append) (xs:=#[.tmp 57,.tmp 59]) rfl ?_); at_builtin; refine Kd.N_append k41 (w0:=w2) w2.heap.size rfl (.tmp 57) (.tmp 59) 22 41 (.agg #[(.string ⟨#[]⟩),(.int .i64 0),(.slice none 0 0),(.string ⟨#[]⟩)]) 64 rfl Tryz.underlying22 info41 rfl (by decide) (by omega) v o x [.string x.f0,.int .i64 x.f1,.slice X x.f2.length d,.string x.f3] (fun _ => True) (fun k => k < w2.heap.size) rfl rfl ?aP ?aK (fun _ _ => trivial) ?aO ?aB ?aS ?aL ?_; (case aP => exact hFK.out); (case aK => exact okp.out); (case aO => exact N3.out); (case aB => exact B3.out); (case aS => exact B3.out.size); (case aL => have:=hml.out; omega); intro v1 y1 hN1 hB1 hg_ hat_; replace hN1:=Aside0.mk hN1; replace hB1:=Aside0.mk hB1; clear hg_ hat_)))
       go_roundg (l.length - (i + 1))
       case measure => omega
       case rel => exact ⟨i + 1,_,rfl,by first | rfl | (rw [hwi]),by omega,hB1,⟨by rw [hmp.out,hxe.out]; exact hN1.out⟩,hR3⟩
    ·have hdb : decide ((i : Int) < (l.length : Int)) = false:=decide_eq_false (by omega)
     have hall : l.take i = l:=List.take_of_length_le (by omega)
     rw [hall] at N1 R1
     have hE0 : Aside0 (E = 0):=⟨by rw [hE.out,if_pos (List.all_eq_true.2 R1.out)]⟩
     have hml : Aside0 ((l.map (mvX p.f1 p.f2)).length ≤ 1024):=⟨by rw [List.length_map]; exact hn.out⟩
     obtain ⟨o,ho⟩ : ∃ o,l.map (mvX p.f1 p.f2) = o:=⟨_,rfl⟩
     rw [ho] at hml N1 hD2 hM
     obtain ⟨Ao,co,rfl,hco,hC⟩:=Kd.N_reads N1.out
     have hS:=sortedR_at o Ao co wr hC hco (by have:=hml.out; omega)
     clear ho hall hC hco
     go_wp2_with (fail)
     refine hS.mono ?_
     rintro e w9 ⟨u,rfl,hN,hb⟩
     go_wp2
     go_ret2
     rw [hE0.out,hM.out,← hD2.out]
     exact ansR_row hN (hwr.out.trans (hb.mono hwr.out.size))
  ·have hE2 : Aside0 (E = r):=⟨by rw [hE.out,if_neg hr0]⟩
   have hb1 : (r != 0) = true:=by rw [bne_iff_ne]; exact hr0
   replace hw2:=Aside0.mk hw2
   clear hr1 hD
   replace hr0:=Aside0.mk hr0
   go_wp2
   go_ret2
   rw [hE2.out]
   exact ansR_err hr0.out hw2.out
theorem okq_small {p : S25} (h : SmallQ p) : Okq p:=⟨h.ok,fun s hs => by have:=h.s5 s hs; omega,fun s hs => by have:=h.s6 s hs; omega⟩
theorem primR_at (x : S25) (A5 : Option Addr) (c5 : Nat) (A6 : Option Addr) (c6 : Nat) (w : World) (hx : Okq x) (rx : Rd w x A5 c5 A6 c6) :
  Calls Tryz.prog 26 #[.agg #[.int .i64 x.f0,.string x.f1,.string x.f2,.string x.f3,.int .i64 x.f4,.slice A5 x.f5.length c5,.slice A6 x.f6.length c6]] w fun e w' => e = .returned (.bool (primB x)) ∧ Below w.heap.size w w':=by
 obtain ⟨k,hk⟩:=(refPrim x hx).rounds
 exact counterpaneref08_Right.calls k _ _ _ _ _ _ _ _ _ _ _ _ w rx.g5 rx.l5 rx.g6 rx.l6 hk
theorem changeC_at (x : S41) (X : Option Addr) (d : Nat) (p : S25) (A5 : Option Addr) (a5 : Nat) (A6 : Option Addr) (a6 : Nat) (w : World) (h7 : 7 ≤ p.f0) (h9 : p.f0 ≤ 9) (hp : primB p = true) (hq : SmallQ p) (hX : Kd.string.C w X x.f2.length x.f2) (hd : x.f2.length ≤ d) (hl : x.f2.length ≤ 100000000) (hs : ∀ s ∈ x.f2,Lr s) (rp : Rd w p A5 a5 A6 a6) :
  Calls Tryz.prog 65 #[.agg #[.string x.f0,.int .i64 x.f1,.slice X x.f2.length d,.string x.f3],.agg #[.int .i64 p.f0,.string p.f1,.string p.f2,.string p.f3,.int .i64 p.f4,.slice A5 p.f5.length a5,.slice A6 p.f6.length a6]] w (AnsC w x p):=by
 have h : p.f0 = 7 ∨ p.f0 = 8 ∨ p.f0 = 9:=by omega
 rcases h with h | h | h
 ·exact linesRR_at x X d p A5 a5 A6 a6 w h hp hq hX hd (by omega) rp
 ·exact tokensC_at x X d p A5 a5 A6 a6 w h hp hq hX hd hl hs
 ·exact bytesR_at x X d p A5 a5 A6 a6 w h hX hd
theorem asksR (b : Nat) (l : List S41) (A : Option Addr) (c : Nat) (p : S25) (A5 : Option Addr) (a5 : Nat) (A6 : Option Addr) (a6 : Nat) (w : World) (hr : Kd.C k41 w A l.length l) (hc : l.length ≤ c) (hB : Bnd b l) (hb : b ≤ 100000000) (hq : SmallQ p) (rp : Rd w p A5 a5 A6 a6) :
  (∀ U,Below w.heap.size w U → Calls Tryz.prog 31 #[.slice A l.length c] U fun e w' => e = .returned (.bool (treeB l)) ∧ Below U.heap.size U w') ∧
  (∀ U,Below w.heap.size w U → Calls Tryz.prog 26 #[.agg #[.int .i64 p.f0,.string p.f1,.string p.f2,.string p.f3,.int .i64 p.f4,.slice A5 p.f5.length a5,.slice A6 p.f6.length a6]] U fun e w' => e = .returned (.bool (primB p)) ∧ Below U.heap.size U w') :=
 ⟨fun U h => treeR_at l A c U (Kd.C_below hr h) hc hB.s (fun x hx => by have:=hB.n x hx; omega) (fun x hx s hs => by have:=(hB.r x hx s hs).size; omega),fun U h => primR_at p A5 a5 A6 a6 U (okq_small hq) (rp.below h)⟩
set_option maxHeartbeats 8000000 in
set_option maxRecDepth 1000000 in
theorem applyNo_at (b : Nat) (l : List S41) (A : Option Addr) (c : Nat) (p : S25) (A5 : Option Addr) (a5 : Nat) (A6 : Option Addr) (a6 : Nat) (w : World) (hr : Kd.C k41 w A l.length l) (hc : l.length ≤ c) (hB : Bnd b l) (hb : b ≤ 100000000) (hq : SmallQ p) (rp : Rd w p A5 a5 A6 a6) (hno : ¬ (treeB l = true ∧ primB p = true)) : Calls Tryz.prog 24 #[.slice A l.length c,.agg #[.int .i64 p.f0,.string p.f1,.string p.f2,.string p.f3,.int .i64 p.f4,.slice A5 p.f5.length a5,.slice A6 p.f6.length a6]] w (AnsR w (doL l p) (applyE l p)):=by
 obtain ⟨hT,hP⟩:=asksR b l A c p A5 a5 A6 a6 w hr hc hB hb hq rp
 have hE : applyE l p = 1:=by
  unfold applyE
  rw [if_neg]
  intro h
  exact hno (by simpa using h)
 rw [hE]
 have HB : Aside0 (Below w.heap.size w (w.alloc (.cells #[.int .i64 p.f0,.string p.f1,.string p.f2,.string p.f3,.int .i64 p.f4,.slice A5 p.f5.length a5,.slice A6 p.f6.length a6] 25))):=⟨below_alloc (Below.refl _ _) _⟩
 have HX : Aside0 ((w.alloc (.cells #[.int .i64 p.f0,.string p.f1,.string p.f2,.string p.f3,.int .i64 p.f4,.slice A5 p.f5.length a5,.slice A6 p.f6.length a6] 25)).heap[w.heap.size]? = some (.cells #[.int .i64 p.f0,.string p.f1,.string p.f2,.string p.f3,.int .i64 p.f4,.slice A5 p.f5.length a5,.slice A6 p.f6.length a6] 25 (0,0))):=⟨blk_new _ _⟩
 obtain ⟨b0,b1,b2,b3,b4,b5,b6⟩:=cells7 HX.out
 clear hr hc hB hb hq rp hE
 cases ht : treeB l with
 | false =>
  rw [ht] at hT
  have hT1:=hT _ HB.out
  clear hT hP ht hno
  go_enter Tryz.func24,Tryz.ntmps24
  go_wp2_with (go_at_call 31; refine hT1.mono ?_; rintro e w1 ⟨rfl,hb1⟩)
  go_ret2
  exact ansR_err (by decide) (HB.out.trans (hb1.mono HB.out.size))
 | true =>
  have hpf : primB p = false:=by rw [Bool.eq_false_iff]; exact fun h => hno ⟨ht,h⟩
  rw [ht] at hT
  rw [hpf] at hP
  have hT1:=hT _ HB.out
  clear hT ht hno hpf
  go_enter Tryz.func24,Tryz.ntmps24
  go_wp2_with (fail)
  refine hT1.mono ?_
  rintro e w1 ⟨rfl,hb1⟩
  have hw1:=HB.out.trans (hb1.mono HB.out.size)
  have x1:=blk_below HX.out hb1
  clear b0 b1 b2 b3 b4 b5 b6 hb1
  obtain ⟨b0,b1,b2,b3,b4,b5,b6⟩:=cells7 x1
  have hP1:=hP _ hw1
  go_wp2_with (fail)
  refine hP1.mono ?_
  rintro e w2 ⟨rfl,hb2⟩
  clear b0 b1 b2 b3 b4 b5 b6
  go_wp2
  go_ret2
  exact ansR_err (by decide) (hw1.trans (hb2.mono hw1.size))
set_option maxHeartbeats 8000000 in
set_option maxRecDepth 1000000 in
theorem applyMove_at (b : Nat) (l : List S41) (A : Option Addr) (c : Nat) (p : S25) (A5 : Option Addr) (a5 : Nat) (A6 : Option Addr) (a6 : Nat) (w : World) (hr : Kd.C k41 w A l.length l) (hc : l.length ≤ c) (hB : Bnd b l) (hb : b ≤ 100000000) (hq : SmallQ p) (rp : Rd w p A5 a5 A6 a6) (ht : treeB l = true) (hp : primB p = true) (h10 : p.f0 = 10) : Calls Tryz.prog 24 #[.slice A l.length c,.agg #[.int .i64 p.f0,.string p.f1,.string p.f2,.string p.f3,.int .i64 p.f4,.slice A5 p.f5.length a5,.slice A6 p.f6.length a6]] w (AnsR w (doL l p) (doE l p)):=by
 have hm:=fun U (h : Below w.heap.size w U) => moveR_at l A c p A5 a5 A6 a6 U (Kd.C_below hr h) hc (tree_iff.1 ht) hp h10
 obtain ⟨e1,e2⟩:=doE_move (l:=l) h10
 rw [e1,e2]
 have hb10 : (p.f0 == 10) = true:=by rw [h10]; rfl
 obtain ⟨hT,hP⟩:=asksR b l A c p A5 a5 A6 a6 w hr hc hB hb hq rp
 rw [ht] at hT
 rw [hp] at hP
 have HB : Aside0 (Below w.heap.size w (w.alloc (.cells #[.int .i64 p.f0,.string p.f1,.string p.f2,.string p.f3,.int .i64 p.f4,.slice A5 p.f5.length a5,.slice A6 p.f6.length a6] 25))):=⟨below_alloc (Below.refl _ _) _⟩
 have HX : Aside0 ((w.alloc (.cells #[.int .i64 p.f0,.string p.f1,.string p.f2,.string p.f3,.int .i64 p.f4,.slice A5 p.f5.length a5,.slice A6 p.f6.length a6] 25)).heap[w.heap.size]? = some (.cells #[.int .i64 p.f0,.string p.f1,.string p.f2,.string p.f3,.int .i64 p.f4,.slice A5 p.f5.length a5,.slice A6 p.f6.length a6] 25 (0,0))):=⟨blk_new _ _⟩
 obtain ⟨b0,b1,b2,b3,b4,b5,b6⟩:=cells7 HX.out
 have hT1:=hT _ HB.out
 clear hT
 clear hr hc hB hb hq rp ht hp e1 e2 h10
 obtain ⟨E,hE⟩ : ∃ E,moveE l p = E:=⟨_,rfl⟩
 obtain ⟨M,hM⟩ : ∃ M,moveL l p = M:=⟨_,rfl⟩
 rw [hE,hM] at hm ⊢
 clear hE hM
 go_enter Tryz.func24,Tryz.ntmps24
 go_wp2_with (fail)
 refine hT1.mono ?_
 rintro e w1 ⟨rfl,hb1⟩
 have hw1:=HB.out.trans (hb1.mono HB.out.size)
 have x1:=blk_below HX.out hb1
 clear b0 b1 b2 b3 b4 b5 b6 hb1 hT1
 obtain ⟨b0,b1,b2,b3,b4,b5,b6⟩:=cells7 x1
 have hP1:=hP _ hw1
 clear hP
 go_wp2_with (fail)
 refine hP1.mono ?_
 rintro e w2 ⟨rfl,hb2⟩
 have hw2 : Below w.heap.size w w2:=hw1.trans (hb2.mono hw1.size)
 have x2 : w2.heap[w.heap.size]? = some (.cells #[.int .i64 p.f0,.string p.f1,.string p.f2,.string p.f3,.int .i64 p.f4,.slice A5 p.f5.length a5,.slice A6 p.f6.length a6] 25 (0,0)):=blk_below x1 hb2
 clear b0 b1 b2 b3 b4 b5 b6 hb2 hP1 hw1 x1 HB HX
 obtain ⟨b0,b1,b2,b3,b4,b5,b6⟩:=cells7 x2
 have hm2:=hm w2 hw2
 clear hm
 replace hw2:=Aside0.mk hw2
 go_wp2_with (fail)
 refine hm2.mono ?_
 rintro e w3 ⟨S,rfl,hb3,hS,hSn⟩
 clear b0 b1 b2 b3 b4 b5 b6
 replace hS:=Aside0.mk hS
 replace hSn:=Aside0.mk hSn
 go_wp2
 go_ret2
 exact ⟨S,rfl,hw2.out.trans (hb3.mono hw2.out.size),hS.out,hSn.out⟩
set_option maxHeartbeats 8000000 in
set_option maxRecDepth 1000000 in
theorem applyAdd_at (b : Nat) (l : List S41) (A : Option Addr) (c : Nat) (p : S25) (A5 : Option Addr) (a5 : Nat) (A6 : Option Addr) (a6 : Nat) (w : World) (hr : Kd.C k41 w A l.length l) (hc : l.length ≤ c) (hB : Bnd b l) (hb : b ≤ 100000000) (hq : SmallQ p) (rp : Rd w p A5 a5 A6 a6) (ht : treeB l = true) (hp : primB p = true) (hn : l.length < 1024) (hk : p.f0 = 1 ∨ p.f0 = 3 ∨ p.f0 = 5) : Calls Tryz.prog 24 #[.slice A l.length c,.agg #[.int .i64 p.f0,.string p.f1,.string p.f2,.string p.f3,.int .i64 p.f4,.slice A5 p.f5.length a5,.slice A6 p.f6.length a6]] w (AnsR w (doL l p) (doE l p)):=by
 have hTr:=tree_iff.1 ht
 obtain ⟨e1,e2⟩:=doE_add (l:=l) hk
 rw [e1,e2]
 have z1 : p.f1.size ≤ 136:=right_size (prim_path hp)
 have hR:=fun U (h : Below w.heap.size w U) => roomR_at l A c p.f1 U (Kd.C_below hr h) hc (by omega) (by omega)
 have hPt:=fun U (h : Below w.heap.size w U) => putR_at l A c (newE p) none 0 U (Kd.C_below hr h) hc (by omega) (strC0 U none) (Nat.le_refl _)
 have hE : addE l p = roomV l p.f1:=by
  unfold addE
  split
  ·rename_i h; rw [if_neg (by omega),h]
  ·rfl
 have hI : roomV l p.f1 = 0 → sortR (l.filter (outB p.f1) ++ [newE p]) = insL l (newE p):=fun h => put_new (y:=newE p) hTr.s (find_none.1 (room_zero.1 h).1)
 have hkd : ∀ U,Calls Tryz.prog 60 #[.int .i64 p.f0] U fun e w' => e = .returned (.int .i64 (kindV p.f0)) ∧ Below U.heap.size U w':=fun U => (kindR_at p.f0 (by omega) (by omega) U).mono (fun e w' h => ⟨h.1,by rw [h.2]; exact Below.refl _ _⟩)
 rw [hE]
 obtain ⟨hT,hP⟩:=asksR b l A c p A5 a5 A6 a6 w hr hc hB hb hq rp
 rw [ht] at hT
 rw [hp] at hP
 have HB : Aside0 (Below w.heap.size w (w.alloc (.cells #[.int .i64 p.f0,.string p.f1,.string p.f2,.string p.f3,.int .i64 p.f4,.slice A5 p.f5.length a5,.slice A6 p.f6.length a6] 25))):=⟨below_alloc (Below.refl _ _) _⟩
 have HX : Aside0 ((w.alloc (.cells #[.int .i64 p.f0,.string p.f1,.string p.f2,.string p.f3,.int .i64 p.f4,.slice A5 p.f5.length a5,.slice A6 p.f6.length a6] 25)).heap[w.heap.size]? = some (.cells #[.int .i64 p.f0,.string p.f1,.string p.f2,.string p.f3,.int .i64 p.f4,.slice A5 p.f5.length a5,.slice A6 p.f6.length a6] 25 (0,0))):=⟨blk_new _ _⟩
 obtain ⟨b0,b1,b2,b3,b4,b5,b6⟩:=cells7 HX.out
 have hT1:=hT _ HB.out
 clear hT
 clear hr hc hB hb hq rp ht hp e1 e2 hE hTr z1
 replace hPt : ∀ U,Below w.heap.size w U → Calls Tryz.prog 62 #[.slice A l.length c,.agg #[.string p.f1,.int .i64 (kindV p.f0),.slice none 0 0,.string ⟨#[]⟩]] U fun e w' => ∃ v,e = .returned v ∧ Kd.N k41 41 w' U.heap.size (fun _ => True) v (sortR (l.filter (outB p.f1) ++ [newE p])) ∧ Below U.heap.size U w':=hPt
 obtain ⟨r,hrr⟩ : ∃ r,roomV l p.f1 = r:=⟨_,rfl⟩
 rw [hrr] at hR hI ⊢
 clear hrr
 obtain ⟨M,hM⟩ : ∃ M,insL l (newE p) = M:=⟨_,rfl⟩
 rw [hM] at hI ⊢
 clear hM
 obtain ⟨K,hKK⟩ : ∃ K,sortR (l.filter (outB p.f1) ++ [newE p]) = K:=⟨_,rfl⟩
 rw [hKK] at hPt hI
 clear hKK
 have hln : decide ((1024 : Int) ≤ (l.length : Int)) = false:=decide_eq_false (by omega)
 obtain ⟨q,hqq⟩ : ∃ q,kindV p.f0 = q:=⟨_,rfl⟩
 rw [hqq] at hPt hkd
 clear hqq hn
 replace hR:=Aside0.mk hR
 replace hPt:=Aside0.mk hPt
 replace hI:=Aside0.mk hI
 replace hkd:=Aside0.mk hkd
 have hks : (p.f0 == 10) = false ∧ ((p.f0 == 1) = true ∨ (p.f0 == 1) = false ∧ (p.f0 == 3) = true ∨ (p.f0 == 1) = false ∧ (p.f0 == 3) = false ∧ (p.f0 == 5) = true):=by rcases hk with h | h | h <;> rw [h] <;> decide
 obtain ⟨k10,hks⟩:=hks
 clear hk
 go_enter Tryz.func24,Tryz.ntmps24
 go_wp2_with (fail)
 refine hT1.mono ?_
 rintro e w1 ⟨rfl,hb1⟩
 have hw1:=HB.out.trans (hb1.mono HB.out.size)
 have x1:=blk_below HX.out hb1
 clear b0 b1 b2 b3 b4 b5 b6 hb1 hT1
 obtain ⟨b0,b1,b2,b3,b4,b5,b6⟩:=cells7 x1
 have hP1:=hP _ hw1
 clear hP
 go_wp2_with (fail)
 refine hP1.mono ?_
 rintro e w2 ⟨rfl,hb2⟩
 have hw2 : Below w.heap.size w w2:=hw1.trans (hb2.mono hw1.size)
 have x2 : w2.heap[w.heap.size]? = some (.cells #[.int .i64 p.f0,.string p.f1,.string p.f2,.string p.f3,.int .i64 p.f4,.slice A5 p.f5.length a5,.slice A6 p.f6.length a6] 25 (0,0)):=blk_below x1 hb2
 clear b0 b1 b2 b3 b4 b5 b6 hb2 hP1 hw1 x1 HB HX
 obtain ⟨b0,b1,b2,b3,b4,b5,b6⟩:=cells7 x2
 have hkd2:=hkd.out w2
 clear hkd
 replace hw2:=Aside0.mk hw2
 replace x2:=Aside0.mk x2
 rcases hks with k1 | ⟨k1,k3⟩ | ⟨k1,k3,k5⟩
 ·go_wp2_with (fail)
  refine hkd2.mono ?_
  rintro e w3 ⟨rfl,hb3⟩
  have hw3:=Aside0.mk (hw2.out.trans (hb3.mono hw2.out.size))
  have x3:=Aside0.mk (blk_below x2.out hb3)
  clear b0 b1 b2 b3 b4 b5 b6 hb3 hkd2
  obtain ⟨b0,b1,b2,b3,b4,b5,b6⟩:=cells7 x3.out
  have hR2:=hR.out w3 hw3.out
  clear hR
  go_wp2_with (fail)
  refine hR2.mono ?_
  rintro e w4 ⟨rfl,hb4⟩
  have hw4:=Aside0.mk (hw3.out.trans (hb4.mono hw3.out.size))
  have x4:=Aside0.mk (blk_below x3.out hb4)
  clear b0 b1 b2 b3 b4 b5 b6 hb4 hR2
  by_cases hr0 : r = 0
  ·subst hr0
   have hI2:=Aside0.mk (hI.out rfl)
   obtain ⟨b0,b1,b2,b3,b4,b5,b6⟩:=cells7 x4.out
   have hP2:=hPt.out w4 hw4.out
   clear hI hPt
   go_wp2_with (fail)
   refine hP2.mono ?_
   rintro e w5 ⟨v,rfl,hN,hb5⟩
   obtain ⟨Av,cv,rfl⟩:=Kd.N_slice hN
   replace hN:=Aside0.mk hN
   replace hb5:=Aside0.mk hb5
   clear b0 b1 b2 b3 b4 b5 b6
   go_wp2
   go_ret2
   rw [← hI2.out]
   exact ansR_row hN.out (hw4.out.trans (hb5.out.mono hw4.out.size))
  ·have hb0 : (r == 0) = false:=beq_eq_false_iff_ne.mpr hr0
   have hb1 : (r != 0) = true:=bne_iff_ne.mpr hr0
   replace hr0:=Aside0.mk hr0
   go_wp2
   go_ret2
   exact ansR_err hr0.out hw4.out
 ·go_wp2_with (fail)
  refine hkd2.mono ?_
  rintro e w3 ⟨rfl,hb3⟩
  have hw3:=Aside0.mk (hw2.out.trans (hb3.mono hw2.out.size))
  have x3:=Aside0.mk (blk_below x2.out hb3)
  clear b0 b1 b2 b3 b4 b5 b6 hb3 hkd2
  obtain ⟨b0,b1,b2,b3,b4,b5,b6⟩:=cells7 x3.out
  have hR2:=hR.out w3 hw3.out
  clear hR
  go_wp2_with (fail)
  refine hR2.mono ?_
  rintro e w4 ⟨rfl,hb4⟩
  have hw4:=Aside0.mk (hw3.out.trans (hb4.mono hw3.out.size))
  have x4:=Aside0.mk (blk_below x3.out hb4)
  clear b0 b1 b2 b3 b4 b5 b6 hb4 hR2
  by_cases hr0 : r = 0
  ·subst hr0
   have hI2:=Aside0.mk (hI.out rfl)
   obtain ⟨b0,b1,b2,b3,b4,b5,b6⟩:=cells7 x4.out
   have hP2:=hPt.out w4 hw4.out
   clear hI hPt
   go_wp2_with (fail)
   refine hP2.mono ?_
   rintro e w5 ⟨v,rfl,hN,hb5⟩
   obtain ⟨Av,cv,rfl⟩:=Kd.N_slice hN
   replace hN:=Aside0.mk hN
   replace hb5:=Aside0.mk hb5
   clear b0 b1 b2 b3 b4 b5 b6
   go_wp2
   go_ret2
   rw [← hI2.out]
   exact ansR_row hN.out (hw4.out.trans (hb5.out.mono hw4.out.size))
  ·have hb0 : (r == 0) = false:=beq_eq_false_iff_ne.mpr hr0
   have hb1 : (r != 0) = true:=bne_iff_ne.mpr hr0
   replace hr0:=Aside0.mk hr0
   go_wp2
   go_ret2
   exact ansR_err hr0.out hw4.out
 ·go_wp2_with (fail)
  refine hkd2.mono ?_
  rintro e w3 ⟨rfl,hb3⟩
  have hw3:=Aside0.mk (hw2.out.trans (hb3.mono hw2.out.size))
  have x3:=Aside0.mk (blk_below x2.out hb3)
  clear b0 b1 b2 b3 b4 b5 b6 hb3 hkd2
  obtain ⟨b0,b1,b2,b3,b4,b5,b6⟩:=cells7 x3.out
  have hR2:=hR.out w3 hw3.out
  clear hR
  go_wp2_with (fail)
  refine hR2.mono ?_
  rintro e w4 ⟨rfl,hb4⟩
  have hw4:=Aside0.mk (hw3.out.trans (hb4.mono hw3.out.size))
  have x4:=Aside0.mk (blk_below x3.out hb4)
  clear b0 b1 b2 b3 b4 b5 b6 hb4 hR2
  by_cases hr0 : r = 0
  ·subst hr0
   have hI2:=Aside0.mk (hI.out rfl)
   obtain ⟨b0,b1,b2,b3,b4,b5,b6⟩:=cells7 x4.out
   have hP2:=hPt.out w4 hw4.out
   clear hI hPt
   go_wp2_with (fail)
   refine hP2.mono ?_
   rintro e w5 ⟨v,rfl,hN,hb5⟩
   obtain ⟨Av,cv,rfl⟩:=Kd.N_slice hN
   replace hN:=Aside0.mk hN
   replace hb5:=Aside0.mk hb5
   clear b0 b1 b2 b3 b4 b5 b6
   go_wp2
   go_ret2
   rw [← hI2.out]
   exact ansR_row hN.out (hw4.out.trans (hb5.out.mono hw4.out.size))
  ·have hb0 : (r == 0) = false:=beq_eq_false_iff_ne.mpr hr0
   have hb1 : (r != 0) = true:=bne_iff_ne.mpr hr0
   replace hr0:=Aside0.mk hr0
   go_wp2
   go_ret2
   exact ansR_err hr0.out hw4.out
set_option maxHeartbeats 8000000 in
set_option maxRecDepth 1000000 in
theorem applyRm_at (b : Nat) (l : List S41) (A : Option Addr) (c : Nat) (p : S25) (A5 : Option Addr) (a5 : Nat) (A6 : Option Addr) (a6 : Nat) (w : World) (hr : Kd.C k41 w A l.length l) (hc : l.length ≤ c) (hB : Bnd b l) (hb : b ≤ 100000000) (hq : SmallQ p) (rp : Rd w p A5 a5 A6 a6) (ht : treeB l = true) (hp : primB p = true) (hk : p.f0 = 2 ∨ p.f0 = 4 ∨ p.f0 = 6) : Calls Tryz.prog 24 #[.slice A l.length c,.agg #[.int .i64 p.f0,.string p.f1,.string p.f2,.string p.f3,.int .i64 p.f4,.slice A5 p.f5.length a5,.slice A6 p.f6.length a6]] w (AnsR w (doL l p) (doE l p)):=by
 have hTr:=tree_iff.1 ht
 have z1 : p.f1.size ≤ 136:=right_size (prim_path hp)
 have hn : l.length ≤ 1024:=hTr.n
 have hF:=find_at l A c p.f1 w hr hc (by omega)
 have hkd : ∀ U,Calls Tryz.prog 60 #[.int .i64 p.f0] U fun e w' => e = .returned (.int .i64 (kindV p.f0)) ∧ Below U.heap.size U w':=fun U => (kindR_at p.f0 (by omega) (by omega) U).mono (fun e w' h => ⟨h.1,by rw [h.2]; exact Below.refl _ _⟩)
 obtain ⟨e1,e2⟩:=doE_remove (l:=l) hk
 rw [e1,e2]
 have hne:=right_ne (prim_path hp)
 have hCh:=fun U (h : Below w.heap.size w U) => childrenR_at l A c p.f1 U (Kd.C_below hr h) hc (by omega) (fun x hx => by have:=right_size (thing_path (hTr.t x hx)); omega) hne
 have hWo:=fun U (h : Below w.heap.size w U) => withoutR_at l A c p.f1 U (Kd.C_below hr h) hc (by omega)
 have hca:=hTr.children hne
 obtain ⟨q,hqq⟩ : ∃ q,kindV p.f0 = q:=⟨_,rfl⟩
 rw [hqq] at hkd
 obtain ⟨t,htt⟩ : ∃ t,thingAt l p.f1 = t:=⟨_,rfl⟩
 rw [htt] at hF
 obtain ⟨f,hff⟩ : ∃ f,(findV l p.f1).isSome = f:=⟨_,rfl⟩
 rw [hff] at hF
 have hE : removeE l p.f1 p.f0 = if f = true then (if t.f1 = q then (if (l.any (fun x => insideB x.f0 p.f1) || decide (0 < t.f2.length) || (t.f3.toList != [])) = true then 81 else 0) else 73) else 72:=by
  unfold removeE thereV fullB
  cases hf : findV l p.f1 with
  | none =>
   rw [hf] at hff
   rw [← hff]
   rfl
  | some x =>
   have hx:=(has_find hTr.s p.f1).2 x hf
   have hxt : t = x:=by rw [← htt]; unfold thingAt; rw [hf]; rfl
   rw [hf] at hff
   rw [← hff,hx.1,hxt,← hqq]
   simp only [Option.isSome_some,if_true]
   by_cases hk2 : x.f1 = kindV p.f0
   ·rw [if_pos hk2,if_pos hk2,if_pos rfl]
   ·rw [if_neg hk2,if_neg hk2,if_neg (by decide)]
 have hD : f = true → l.filter (outB p.f1) = delL l p.f1:=fun h => by
  rw [h] at hff
  obtain ⟨x,hx⟩:=Option.isSome_iff_exists.1 hff
  have h2:=(has_find hTr.s p.f1).2 x hx
  have h3:=without_del hTr.s h2.2
  rw [h2.1,(find_mem hx).2] at h3
  exact h3
 obtain ⟨E,hEE⟩ : ∃ E,removeE l p.f1 p.f0 = E:=⟨_,rfl⟩
 rw [hEE] at hE ⊢
 have hkl : decide ((0 : Int) < ((l.filter (childB p.f1)).length : Int)) = l.any (fun x => insideB x.f0 p.f1):=by
  rw [← hca,Bool.eq_iff_iff,decide_eq_true_iff,List.any_eq_true]
  constructor
  ·intro h
   obtain ⟨y,hy⟩:=List.exists_mem_of_length_pos (show 0 < (l.filter (childB p.f1)).length by omega)
   exact ⟨y,(List.mem_filter.1 hy).1,(List.mem_filter.1 hy).2⟩
  ·rintro ⟨y,hy,hc2⟩
   have:=List.length_pos_of_mem (List.mem_filter.2 ⟨hy,hc2⟩)
   omega
 obtain ⟨ch,hch⟩ : ∃ ch,l.filter (childB p.f1) = ch:=⟨_,rfl⟩
 rw [hch] at hCh hkl
 obtain ⟨a,ha⟩ : ∃ a,l.any (fun x => insideB x.f0 p.f1) = a:=⟨_,rfl⟩
 rw [ha] at hE hkl
 obtain ⟨fl,hfl⟩ : ∃ fl,l.filter (outB p.f1) = fl:=⟨_,rfl⟩
 rw [hfl] at hWo hD
 obtain ⟨M,hM⟩ : ∃ M,delL l p.f1 = M:=⟨_,rfl⟩
 rw [hM] at hD ⊢
 obtain ⟨hT,hP⟩:=asksR b l A c p A5 a5 A6 a6 w hr hc hB hb hq rp
 rw [ht] at hT
 rw [hp] at hP
 have HB : Aside0 (Below w.heap.size w (w.alloc (.cells #[.int .i64 p.f0,.string p.f1,.string p.f2,.string p.f3,.int .i64 p.f4,.slice A5 p.f5.length a5,.slice A6 p.f6.length a6] 25))):=⟨below_alloc (Below.refl _ _) _⟩
 have HX : Aside0 ((w.alloc (.cells #[.int .i64 p.f0,.string p.f1,.string p.f2,.string p.f3,.int .i64 p.f4,.slice A5 p.f5.length a5,.slice A6 p.f6.length a6] 25)).heap[w.heap.size]? = some (.cells #[.int .i64 p.f0,.string p.f1,.string p.f2,.string p.f3,.int .i64 p.f4,.slice A5 p.f5.length a5,.slice A6 p.f6.length a6] 25 (0,0))):=⟨blk_new _ _⟩
 obtain ⟨b0,b1,b2,b3,b4,b5,b6⟩:=cells7 HX.out
 have hT1:=hT _ HB.out
 clear hT
 clear hr hc hB hb hq rp ht hp e1 e2 hTr z1 hqq htt hff hEE hch ha hfl hM hne hn hca
 replace hE:=Aside0.mk hE
 replace hD:=Aside0.mk hD
 replace hF:=Aside0.mk hF
 replace hCh:=Aside0.mk hCh
 replace hWo:=Aside0.mk hWo
 have hks : (p.f0 == 10) = false ∧ (p.f0 == 1) = false ∧ (p.f0 == 3) = false ∧ (p.f0 == 5) = false ∧ ((p.f0 == 2) = true ∨ (p.f0 == 2) = false ∧ (p.f0 == 4) = true ∨ (p.f0 == 2) = false ∧ (p.f0 == 4) = false ∧ (p.f0 == 6) = true):=by rcases hk with h | h | h <;> rw [h] <;> decide
 obtain ⟨k10,k1,k3,k5,hks⟩:=hks
 clear hk
 go_enter Tryz.func24,Tryz.ntmps24
 go_wp2_with (fail)
 refine hT1.mono ?_
 rintro e w1 ⟨rfl,hb1⟩
 have hw1:=HB.out.trans (hb1.mono HB.out.size)
 have x1:=blk_below HX.out hb1
 clear b0 b1 b2 b3 b4 b5 b6 hb1 hT1
 obtain ⟨b0,b1,b2,b3,b4,b5,b6⟩:=cells7 x1
 have hP1:=hP _ hw1
 clear hP
 go_wp2_with (fail)
 refine hP1.mono ?_
 rintro e w2 ⟨rfl,hb2⟩
 have hw2 : Below w.heap.size w w2:=hw1.trans (hb2.mono hw1.size)
 have x2 : w2.heap[w.heap.size]? = some (.cells #[.int .i64 p.f0,.string p.f1,.string p.f2,.string p.f3,.int .i64 p.f4,.slice A5 p.f5.length a5,.slice A6 p.f6.length a6] 25 (0,0)):=blk_below x1 hb2
 clear b0 b1 b2 b3 b4 b5 b6 hb2 hP1 hw1 x1 HB HX
 obtain ⟨b0,b1,b2,b3,b4,b5,b6⟩:=cells7 x2
 have hkd2:=hkd w2
 clear hkd
 replace hw2:=Aside0.mk hw2
 replace x2:=Aside0.mk x2
 go_wp2_with (fail)
 refine hkd2.mono ?_
 rintro e w3 ⟨rfl,hb3⟩
 have hw3:=Aside0.mk (hw2.out.trans (hb3.mono hw2.out.size))
 have x3:=Aside0.mk (blk_below x2.out hb3)
 clear b0 b1 b2 b3 b4 b5 b6 hb3 hkd2
 obtain ⟨b0,b1,b2,b3,b4,b5,b6⟩:=cells7 x3.out
 have hF2:=hF.out w3 hw3.out
 clear hF
 go_upto_region 14 with (go_at_call 33; refine hF2.mono ?_; rintro e w4 ⟨X0,d0,rfl,hd0,hX0,hb4⟩)
 obtain ⟨u4,hu4⟩ : ∃ u4,w4.alloc (.cells #[.string t.f0,.int .i64 t.f1,.slice X0 t.f2.length d0,.string t.f3] 41) = u4:=⟨_,rfl⟩
 have hw4 : Aside0 (Below w.heap.size w u4):=⟨by rw [← hu4]; exact (hw3.out.trans (hb4.mono hw3.out.size)).alloc (hw3.out.trans (hb4.mono hw3.out.size)).size _⟩
 have x4 : Aside0 (u4.heap[w.heap.size]? = some (.cells #[.int .i64 p.f0,.string p.f1,.string p.f2,.string p.f3,.int .i64 p.f4,.slice A5 p.f5.length a5,.slice A6 p.f6.length a6] 25 (0,0))):=⟨by rw [← hu4]; exact blk_alloc (blk_below x3.out hb4) _⟩
 have y4 : Aside0 (u4.heap[w4.heap.size]? = some (.cells #[.string t.f0,.int .i64 t.f1,.slice X0 t.f2.length d0,.string t.f3] 41 (0,0))):=⟨by rw [← hu4]; exact blk_new _ _⟩
 have hX : Aside0 (Kd.string.C u4 X0 t.f2.length t.f2):=⟨by rw [← hu4]; exact Kd.C_below hX0 (below_alloc (Below.refl _ _) _)⟩
 replace hd0:=Aside0.mk hd0
 rw [hu4]
 clear hu4 hb4 hX0 hF2 b0 b1 b2 b3 b4 b5 b6
 generalize w4.heap.size = g at y4 ⊢
 cases f with
 | false =>
  have hE2 : Aside0 (E = 72):=⟨hE.out.trans (if_neg (by decide))⟩
  clear hD
  go_wp2
  go_ret2
  rw [hE2.out]
  exact ansR_err (by decide) hw4.out
 | true =>
  have hE2:=Aside0.mk (hE.out.trans (if_pos rfl))
  have hD2:=Aside0.mk (hD.out rfl)
  clear hE hD
  obtain ⟨y0,y1,y2,y3⟩:=cells4 y4.out
  by_cases hkq : t.f1 = q
  ·have hkb : (t.f1 != q) = false:=by rw [hkq]; simp
   have hE3:=Aside0.mk (hE2.out.trans (if_pos hkq))
   clear hE2 hkq
   have hC2:=hCh.out u4 hw4.out
   clear hCh
   obtain ⟨m,hm⟩ : ∃ m,ch.length = m:=⟨_,rfl⟩
   rw [hm] at hkl
   replace hm:=Aside0.mk hm
   obtain ⟨b0,b1,b2,b3,b4,b5,b6⟩:=cells7 x4.out
   rcases hks with k2 | ⟨k2,k4⟩ | ⟨k2,k4,k6⟩
   ·go_wp2_with (fail)
    refine hC2.mono ?_
    rintro e w5 ⟨v,rfl,hN,hb5⟩
    obtain ⟨Ac,cc,rfl⟩:=Kd.N_slice hN
    rw [hm.out]
    have hw5:=Aside0.mk (hw4.out.trans (hb5.mono hw4.out.size))
    have x5:=Aside0.mk (blk_below x4.out hb5)
    have y5:=Aside0.mk (blk_below y4.out hb5)
    clear b0 b1 b2 b3 b4 b5 b6 y0 y1 y2 y3 hN hb5 hC2
    obtain ⟨b0,b1,b2,b3,b4,b5,b6⟩:=cells7 x5.out
    obtain ⟨y0,y1,y2,y3⟩:=cells4 y5.out
    obtain ⟨n,hn⟩ : ∃ n,t.f2.length = n:=⟨_,rfl⟩
    rw [hn] at hE3 y2
    clear hn
    cases a with
    | true =>
     have hm1 : (m = 0) = False:=eq_false (by have:=of_decide_eq_true hkl; omega)
     have hm2 : (0 < m) = True:=eq_true (by have:=of_decide_eq_true hkl; omega)
     have hE4 : Aside0 (E = 81):=⟨hE3.out.trans (by simp)⟩
     go_wp2
     go_ret2
     rw [hE4.out]
     exact ansR_err (by decide) hw5.out
    | false =>
     have hm1 : (m = 0) = True:=eq_true (by have:=of_decide_eq_false hkl; omega)
     have hm2 : (0 < m) = False:=eq_false (by have:=of_decide_eq_false hkl; omega)
     by_cases h0 : 0 < n
     ·have h0b : decide ((0 : Int) < (n : Int)) = true:=decide_eq_true (by omega)
      have h0d : (n = 0) = False:=eq_false (by omega)
      have h0e : (0 < n) = True:=eq_true (by omega)
      have hE4 : Aside0 (E = 81):=⟨hE3.out.trans (by simp [h0])⟩
      clear h0
      go_wp2
      go_ret2
      rw [hE4.out]
      exact ansR_err (by decide) hw5.out
     ·have h0b : decide ((0 : Int) < (n : Int)) = false:=decide_eq_false (by omega)
      have h0c : decide (0 < n) = false:=decide_eq_false h0
      have h0d : (n = 0) = True:=eq_true (by omega)
      have h0e : (0 < n) = False:=eq_false (by omega)
      clear h0
      have hzz : ∀ l : List UInt8,(l != []) = !l.isEmpty:=fun l => by cases l <;> rfl
      cases hz : (t.f3.toList != []) with
      | true =>
       have hE4 : Aside0 (E = 81):=⟨hE3.out.trans (by rw [hz]; simp)⟩
       have hz2 : t.f3.toList.isEmpty = false:=by have:=hzz t.f3.toList; rw [hz] at this; simpa using this.symm
       have hz3 : (t.f3.toList == []) = false:=by simp only [bne] at hz; simpa using hz
       clear hzz
       go_wp2
       go_ret2
       rw [hE4.out]
       exact ansR_err (by decide) hw5.out
      | false =>
       have hE4 : Aside0 (E = 0):=⟨hE3.out.trans (by rw [hz,h0c]; rfl)⟩
       have hz2 : t.f3.toList.isEmpty = true:=by have:=hzz t.f3.toList; rw [hz] at this; simpa using this.symm
       have hz3 : (t.f3.toList == []) = true:=by simp only [bne] at hz; simpa using hz
       clear hzz
       have hW2:=hWo.out w5 hw5.out
       clear hWo
       go_wp2_with (fail)
       refine hW2.mono ?_
       rintro e w6 ⟨v,rfl,hN,hb6⟩
       obtain ⟨Av,cv,rfl⟩:=Kd.N_slice hN
       replace hN:=Aside0.mk hN
       replace hb6:=Aside0.mk hb6
       clear b0 b1 b2 b3 b4 b5 b6 y0 y1 y2 y3
       go_wp2
       go_ret2
       rw [hE4.out,← hD2.out]
       exact ansR_row hN.out (hw5.out.trans (hb6.out.mono hw5.out.size))
   ·go_wp2_with (fail)
    refine hC2.mono ?_
    rintro e w5 ⟨v,rfl,hN,hb5⟩
    obtain ⟨Ac,cc,rfl⟩:=Kd.N_slice hN
    rw [hm.out]
    have hw5:=Aside0.mk (hw4.out.trans (hb5.mono hw4.out.size))
    have x5:=Aside0.mk (blk_below x4.out hb5)
    have y5:=Aside0.mk (blk_below y4.out hb5)
    clear b0 b1 b2 b3 b4 b5 b6 y0 y1 y2 y3 hN hb5 hC2
    obtain ⟨b0,b1,b2,b3,b4,b5,b6⟩:=cells7 x5.out
    obtain ⟨y0,y1,y2,y3⟩:=cells4 y5.out
    obtain ⟨n,hn⟩ : ∃ n,t.f2.length = n:=⟨_,rfl⟩
    rw [hn] at hE3 y2
    clear hn
    cases a with
    | true =>
     have hm1 : (m = 0) = False:=eq_false (by have:=of_decide_eq_true hkl; omega)
     have hm2 : (0 < m) = True:=eq_true (by have:=of_decide_eq_true hkl; omega)
     have hE4 : Aside0 (E = 81):=⟨hE3.out.trans (by simp)⟩
     go_wp2
     go_ret2
     rw [hE4.out]
     exact ansR_err (by decide) hw5.out
    | false =>
     have hm1 : (m = 0) = True:=eq_true (by have:=of_decide_eq_false hkl; omega)
     have hm2 : (0 < m) = False:=eq_false (by have:=of_decide_eq_false hkl; omega)
     by_cases h0 : 0 < n
     ·have h0b : decide ((0 : Int) < (n : Int)) = true:=decide_eq_true (by omega)
      have h0d : (n = 0) = False:=eq_false (by omega)
      have h0e : (0 < n) = True:=eq_true (by omega)
      have hE4 : Aside0 (E = 81):=⟨hE3.out.trans (by simp [h0])⟩
      clear h0
      go_wp2
      go_ret2
      rw [hE4.out]
      exact ansR_err (by decide) hw5.out
     ·have h0b : decide ((0 : Int) < (n : Int)) = false:=decide_eq_false (by omega)
      have h0c : decide (0 < n) = false:=decide_eq_false h0
      have h0d : (n = 0) = True:=eq_true (by omega)
      have h0e : (0 < n) = False:=eq_false (by omega)
      clear h0
      have hzz : ∀ l : List UInt8,(l != []) = !l.isEmpty:=fun l => by cases l <;> rfl
      cases hz : (t.f3.toList != []) with
      | true =>
       have hE4 : Aside0 (E = 81):=⟨hE3.out.trans (by rw [hz]; simp)⟩
       have hz2 : t.f3.toList.isEmpty = false:=by have:=hzz t.f3.toList; rw [hz] at this; simpa using this.symm
       have hz3 : (t.f3.toList == []) = false:=by simp only [bne] at hz; simpa using hz
       clear hzz
       go_wp2
       go_ret2
       rw [hE4.out]
       exact ansR_err (by decide) hw5.out
      | false =>
       have hE4 : Aside0 (E = 0):=⟨hE3.out.trans (by rw [hz,h0c]; rfl)⟩
       have hz2 : t.f3.toList.isEmpty = true:=by have:=hzz t.f3.toList; rw [hz] at this; simpa using this.symm
       have hz3 : (t.f3.toList == []) = true:=by simp only [bne] at hz; simpa using hz
       clear hzz
       have hW2:=hWo.out w5 hw5.out
       clear hWo
       go_wp2_with (fail)
       refine hW2.mono ?_
       rintro e w6 ⟨v,rfl,hN,hb6⟩
       obtain ⟨Av,cv,rfl⟩:=Kd.N_slice hN
       replace hN:=Aside0.mk hN
       replace hb6:=Aside0.mk hb6
       clear b0 b1 b2 b3 b4 b5 b6 y0 y1 y2 y3
       go_wp2
       go_ret2
       rw [hE4.out,← hD2.out]
       exact ansR_row hN.out (hw5.out.trans (hb6.out.mono hw5.out.size))
   ·go_wp2_with (fail)
    refine hC2.mono ?_
    rintro e w5 ⟨v,rfl,hN,hb5⟩
    obtain ⟨Ac,cc,rfl⟩:=Kd.N_slice hN
    rw [hm.out]
    have hw5:=Aside0.mk (hw4.out.trans (hb5.mono hw4.out.size))
    have x5:=Aside0.mk (blk_below x4.out hb5)
    have y5:=Aside0.mk (blk_below y4.out hb5)
    clear b0 b1 b2 b3 b4 b5 b6 y0 y1 y2 y3 hN hb5 hC2
    obtain ⟨b0,b1,b2,b3,b4,b5,b6⟩:=cells7 x5.out
    obtain ⟨y0,y1,y2,y3⟩:=cells4 y5.out
    obtain ⟨n,hn⟩ : ∃ n,t.f2.length = n:=⟨_,rfl⟩
    rw [hn] at hE3 y2
    clear hn
    cases a with
    | true =>
     have hm1 : (m = 0) = False:=eq_false (by have:=of_decide_eq_true hkl; omega)
     have hm2 : (0 < m) = True:=eq_true (by have:=of_decide_eq_true hkl; omega)
     have hE4 : Aside0 (E = 81):=⟨hE3.out.trans (by simp)⟩
     go_wp2
     go_ret2
     rw [hE4.out]
     exact ansR_err (by decide) hw5.out
    | false =>
     have hm1 : (m = 0) = True:=eq_true (by have:=of_decide_eq_false hkl; omega)
     have hm2 : (0 < m) = False:=eq_false (by have:=of_decide_eq_false hkl; omega)
     by_cases h0 : 0 < n
     ·have h0b : decide ((0 : Int) < (n : Int)) = true:=decide_eq_true (by omega)
      have h0d : (n = 0) = False:=eq_false (by omega)
      have h0e : (0 < n) = True:=eq_true (by omega)
      have hE4 : Aside0 (E = 81):=⟨hE3.out.trans (by simp [h0])⟩
      clear h0
      go_wp2
      go_ret2
      rw [hE4.out]
      exact ansR_err (by decide) hw5.out
     ·have h0b : decide ((0 : Int) < (n : Int)) = false:=decide_eq_false (by omega)
      have h0c : decide (0 < n) = false:=decide_eq_false h0
      have h0d : (n = 0) = True:=eq_true (by omega)
      have h0e : (0 < n) = False:=eq_false (by omega)
      clear h0
      have hzz : ∀ l : List UInt8,(l != []) = !l.isEmpty:=fun l => by cases l <;> rfl
      cases hz : (t.f3.toList != []) with
      | true =>
       have hE4 : Aside0 (E = 81):=⟨hE3.out.trans (by rw [hz]; simp)⟩
       have hz2 : t.f3.toList.isEmpty = false:=by have:=hzz t.f3.toList; rw [hz] at this; simpa using this.symm
       have hz3 : (t.f3.toList == []) = false:=by simp only [bne] at hz; simpa using hz
       clear hzz
       go_wp2
       go_ret2
       rw [hE4.out]
       exact ansR_err (by decide) hw5.out
      | false =>
       have hE4 : Aside0 (E = 0):=⟨hE3.out.trans (by rw [hz,h0c]; rfl)⟩
       have hz2 : t.f3.toList.isEmpty = true:=by have:=hzz t.f3.toList; rw [hz] at this; simpa using this.symm
       have hz3 : (t.f3.toList == []) = true:=by simp only [bne] at hz; simpa using hz
       clear hzz
       have hW2:=hWo.out w5 hw5.out
       clear hWo
       go_wp2_with (fail)
       refine hW2.mono ?_
       rintro e w6 ⟨v,rfl,hN,hb6⟩
       obtain ⟨Av,cv,rfl⟩:=Kd.N_slice hN
       replace hN:=Aside0.mk hN
       replace hb6:=Aside0.mk hb6
       clear b0 b1 b2 b3 b4 b5 b6 y0 y1 y2 y3
       go_wp2
       go_ret2
       rw [hE4.out,← hD2.out]
       exact ansR_row hN.out (hw5.out.trans (hb6.out.mono hw5.out.size))
  ·have hkb : (t.f1 != q) = true:=bne_iff_ne.mpr hkq
   have hE3:=Aside0.mk (hE2.out.trans (if_neg hkq))
   clear hkq
   go_wp2
   go_ret2
   rw [hE3.out]
   exact ansR_err (by decide) hw4.out
set_option maxHeartbeats 8000000 in
set_option maxRecDepth 1000000 in
theorem applyCh_at (b : Nat) (l : List S41) (A : Option Addr) (c : Nat) (p : S25) (A5 : Option Addr) (a5 : Nat) (A6 : Option Addr) (a6 : Nat) (w : World) (hr : Kd.C k41 w A l.length l) (hc : l.length ≤ c) (hB : Bnd b l) (hb : b ≤ 100000000) (hq : SmallQ p) (rp : Rd w p A5 a5 A6 a6) (ht : treeB l = true) (hp : primB p = true) (h7 : 7 ≤ p.f0) (h9 : p.f0 ≤ 9) : Calls Tryz.prog 24 #[.slice A l.length c,.agg #[.int .i64 p.f0,.string p.f1,.string p.f2,.string p.f3,.int .i64 p.f4,.slice A5 p.f5.length a5,.slice A6 p.f6.length a6]] w (AnsR w (doL l p) (doE l p)):=by
 have hTr:=tree_iff.1 ht
 have z1 : p.f1.size ≤ 136:=right_size (prim_path hp)
 have hn : l.length ≤ 1024:=hTr.n
 have hF:=find_at l A c p.f1 w hr hc (by omega)
 have hkd : ∀ U,Calls Tryz.prog 60 #[.int .i64 p.f0] U fun e w' => e = .returned (.int .i64 (kindV p.f0)) ∧ Below U.heap.size U w':=fun U => (kindR_at p.f0 (by omega) (by omega) U).mono (fun e w' h => ⟨h.1,by rw [h.2]; exact Below.refl _ _⟩)
 obtain ⟨e1,e2⟩:=doE_change (l:=l) h7 h9
 rw [e1,e2]
 obtain ⟨q,hqq⟩ : ∃ q,kindV p.f0 = q:=⟨_,rfl⟩
 rw [hqq] at hkd
 obtain ⟨t,htt⟩ : ∃ t,thingAt l p.f1 = t:=⟨_,rfl⟩
 rw [htt] at hF
 obtain ⟨f,hff⟩ : ∃ f,(findV l p.f1).isSome = f:=⟨_,rfl⟩
 rw [hff] at hF
 have hE : changeE l p = if f = true then (if t.f1 = q then (if (changeV t p).isSome = true then 0 else 81) else 73) else 72:=by
  unfold changeE thereV
  rw [htt]
  cases hf : findV l p.f1 with
  | none =>
   rw [hf] at hff
   rw [← hff]
   rfl
  | some x =>
   have hxt : t = x:=by rw [← htt]; unfold thingAt; rw [hf]; rfl
   rw [hf] at hff
   rw [← hff,hxt,← hqq]
   simp only [Option.isSome_some,if_true]
   by_cases hk2 : x.f1 = kindV p.f0
   ·rw [if_pos hk2,if_pos hk2,if_pos rfl]
   ·rw [if_neg hk2,if_neg hk2,if_neg (by decide)]
 have hD : f = true → ∀ y,changeV t p = some y → sortR (l.filter (outB y.f0) ++ [y]) = changeL l p:=fun h y hy => by
  rw [h] at hff
  obtain ⟨x,hx⟩:=Option.isSome_iff_exists.1 hff
  have hxt : t = x:=by rw [← htt]; unfold thingAt; rw [hx]; rfl
  rw [hxt] at hy
  have h2:=(has_find hTr.s p.f1).2 x hx
  have h3:=(find_mem hx).2
  have h4:=(change_f0 hy).1
  rw [change_L hx hy,put_set hTr.s h2.2 (by rw [h2.1,h4]),h4,h3]
 have htl : t.f2.length ≤ 100000000 ∧ ∀ s ∈ t.f2,Lr s:=by
  rw [← htt]
  unfold thingAt
  cases hf : findV l p.f1 with
  | none => exact ⟨Nat.zero_le _,fun s hs => by cases hs⟩
  | some x => exact ⟨Nat.le_trans (hB.n x (find_mem hf).1) hb,hB.r x (find_mem hf).1⟩
 have hCg:=fun (X0 : Option Addr) (d0 : Nat) (U : World) (h : Below w.heap.size w U) (hX : Kd.string.C U X0 t.f2.length t.f2) (hd : t.f2.length ≤ d0) => changeC_at t X0 d0 p A5 a5 A6 a6 U h7 h9 hp hq hX hd htl.1 htl.2 (rp.below h)
 have hPt:=fun (y : S41) (Y : Option Addr) (dy : Nat) (U : World) (h : Below w.heap.size w U) (hY : Kd.string.C U Y y.f2.length y.f2) (hd : y.f2.length ≤ dy) => putR_at l A c y Y dy U (Kd.C_below hr h) hc (by omega) hY hd
 obtain ⟨E,hEE⟩ : ∃ E,changeE l p = E:=⟨_,rfl⟩
 rw [hEE] at hE ⊢
 obtain ⟨M,hM⟩ : ∃ M,changeL l p = M:=⟨_,rfl⟩
 rw [hM] at hD ⊢
 obtain ⟨hT,hP⟩:=asksR b l A c p A5 a5 A6 a6 w hr hc hB hb hq rp
 rw [ht] at hT
 rw [hp] at hP
 have HB : Aside0 (Below w.heap.size w (w.alloc (.cells #[.int .i64 p.f0,.string p.f1,.string p.f2,.string p.f3,.int .i64 p.f4,.slice A5 p.f5.length a5,.slice A6 p.f6.length a6] 25))):=⟨below_alloc (Below.refl _ _) _⟩
 have HX : Aside0 ((w.alloc (.cells #[.int .i64 p.f0,.string p.f1,.string p.f2,.string p.f3,.int .i64 p.f4,.slice A5 p.f5.length a5,.slice A6 p.f6.length a6] 25)).heap[w.heap.size]? = some (.cells #[.int .i64 p.f0,.string p.f1,.string p.f2,.string p.f3,.int .i64 p.f4,.slice A5 p.f5.length a5,.slice A6 p.f6.length a6] 25 (0,0))):=⟨blk_new _ _⟩
 obtain ⟨b0,b1,b2,b3,b4,b5,b6⟩:=cells7 HX.out
 have hT1:=hT _ HB.out
 clear hT
 have hks : (p.f0 == 10) = false ∧ (p.f0 == 1) = false ∧ (p.f0 == 3) = false ∧ (p.f0 == 5) = false ∧ (p.f0 == 2) = false ∧ (p.f0 == 4) = false ∧ (p.f0 == 6) = false:=by
  have h : p.f0 = 7 ∨ p.f0 = 8 ∨ p.f0 = 9:=by omega
  rcases h with h | h | h <;> rw [h] <;> decide
 obtain ⟨k10,k1,k3,k5,k2,k4,k6⟩:=hks
 clear hr hc hB hb hq rp ht hp e1 e2 hTr z1 hqq htt hff hEE hM hn h7 h9 htl
 replace hE:=Aside0.mk hE
 replace hD:=Aside0.mk hD
 replace hF:=Aside0.mk hF
 replace hCg:=Aside0.mk hCg
 replace hPt:=Aside0.mk hPt
 go_enter Tryz.func24,Tryz.ntmps24
 go_wp2_with (fail)
 refine hT1.mono ?_
 rintro e w1 ⟨rfl,hb1⟩
 have hw1:=HB.out.trans (hb1.mono HB.out.size)
 have x1:=blk_below HX.out hb1
 clear b0 b1 b2 b3 b4 b5 b6 hb1 hT1
 obtain ⟨b0,b1,b2,b3,b4,b5,b6⟩:=cells7 x1
 have hP1:=hP _ hw1
 clear hP
 go_wp2_with (fail)
 refine hP1.mono ?_
 rintro e w2 ⟨rfl,hb2⟩
 have hw2 : Below w.heap.size w w2:=hw1.trans (hb2.mono hw1.size)
 have x2 : w2.heap[w.heap.size]? = some (.cells #[.int .i64 p.f0,.string p.f1,.string p.f2,.string p.f3,.int .i64 p.f4,.slice A5 p.f5.length a5,.slice A6 p.f6.length a6] 25 (0,0)):=blk_below x1 hb2
 clear b0 b1 b2 b3 b4 b5 b6 hb2 hP1 hw1 x1 HB HX
 obtain ⟨b0,b1,b2,b3,b4,b5,b6⟩:=cells7 x2
 have hkd2:=hkd w2
 clear hkd
 replace hw2:=Aside0.mk hw2
 replace x2:=Aside0.mk x2
 go_wp2_with (fail)
 refine hkd2.mono ?_
 rintro e w3 ⟨rfl,hb3⟩
 have hw3:=Aside0.mk (hw2.out.trans (hb3.mono hw2.out.size))
 have x3:=Aside0.mk (blk_below x2.out hb3)
 clear b0 b1 b2 b3 b4 b5 b6 hb3 hkd2
 obtain ⟨b0,b1,b2,b3,b4,b5,b6⟩:=cells7 x3.out
 have hF2:=hF.out w3 hw3.out
 clear hF
 go_upto_region 14 with (go_at_call 33; refine hF2.mono ?_; rintro e w4 ⟨X0,d0,rfl,hd0,hX0,hb4⟩)
 obtain ⟨u4,hu4⟩ : ∃ u4,w4.alloc (.cells #[.string t.f0,.int .i64 t.f1,.slice X0 t.f2.length d0,.string t.f3] 41) = u4:=⟨_,rfl⟩
 have hw4 : Aside0 (Below w.heap.size w u4):=⟨by rw [← hu4]; exact (hw3.out.trans (hb4.mono hw3.out.size)).alloc (hw3.out.trans (hb4.mono hw3.out.size)).size _⟩
 have x4 : Aside0 (u4.heap[w.heap.size]? = some (.cells #[.int .i64 p.f0,.string p.f1,.string p.f2,.string p.f3,.int .i64 p.f4,.slice A5 p.f5.length a5,.slice A6 p.f6.length a6] 25 (0,0))):=⟨by rw [← hu4]; exact blk_alloc (blk_below x3.out hb4) _⟩
 have y4 : Aside0 (u4.heap[w4.heap.size]? = some (.cells #[.string t.f0,.int .i64 t.f1,.slice X0 t.f2.length d0,.string t.f3] 41 (0,0))):=⟨by rw [← hu4]; exact blk_new _ _⟩
 have hX : Aside0 (Kd.string.C u4 X0 t.f2.length t.f2):=⟨by rw [← hu4]; exact Kd.C_below hX0 (below_alloc (Below.refl _ _) _)⟩
 replace hd0:=Aside0.mk hd0
 rw [hu4]
 clear hu4 hb4 hX0 hF2 b0 b1 b2 b3 b4 b5 b6
 generalize w4.heap.size = g at y4 ⊢
 cases f with
 | false =>
  have hE2 : Aside0 (E = 72):=⟨hE.out.trans (if_neg (by decide))⟩
  clear hD
  go_wp2
  go_ret2
  rw [hE2.out]
  exact ansR_err (by decide) hw4.out
 | true =>
  have hE2:=Aside0.mk (hE.out.trans (if_pos rfl))
  have hD2:=Aside0.mk (hD.out rfl)
  clear hE hD
  obtain ⟨y0,y1,y2,y3⟩:=cells4 y4.out
  by_cases hkq : t.f1 = q
  ·have hkb : (t.f1 != q) = false:=by rw [hkq]; simp
   have hE3:=Aside0.mk (hE2.out.trans (if_pos hkq))
   clear hE2 hkq
   have hC2:=hCg.out X0 d0 u4 hw4.out hX.out hd0.out
   clear hCg
   obtain ⟨b0,b1,b2,b3,b4,b5,b6⟩:=cells7 x4.out
   go_upto_region 23 with (go_at_call 65; refine hC2.mono ?_; rintro e w5 ⟨y,Y,dy,rfl,hb5,hy⟩)
   clear b0 b1 b2 b3 b4 b5 b6 y0 y1 y2 y3 hC2
   have hw5:=Aside0.mk (hw4.out.trans (hb5.mono hw4.out.size))
   obtain ⟨o,ho⟩ : ∃ o,changeV t p = o:=⟨_,rfl⟩
   rw [ho] at hy hE3 hD2 ⊢
   clear hb5 ho
   have hw6:=Aside0.mk (hw5.out.alloc hw5.out.size (.cells #[.string y.f0,.int .i64 y.f1,.slice Y y.f2.length dy,.string y.f3] 41))
   cases o with
   | none =>
    have hE4 : Aside0 (E = 81):=⟨hE3.out.trans (if_neg (by decide))⟩
    clear hy hD2
    go_wp2
    go_ret2
    rw [hE4.out]
    exact ansR_err (by decide) hw6.out
   | some z =>
    obtain ⟨rfl,hdy,hY⟩:=hy z rfl
    have hE4 : Aside0 (E = 0):=⟨hE3.out.trans (if_pos rfl)⟩
    have hD3:=Aside0.mk (hD2.out z rfl)
    have hP2:=hPt.out z Y dy _ hw6.out (Kd.C_below hY (below_alloc (Below.refl _ _) _)) hdy
    have y6:=blk_new w5 (.cells #[.string z.f0,.int .i64 z.f1,.slice Y z.f2.length dy,.string z.f3] 41)
    obtain ⟨y0,y1,y2,y3⟩:=cells4 y6
    clear hy hD2 hPt y6 hY hdy
    go_wp2_with (fail)
    refine hP2.mono ?_
    rintro e w7 ⟨v,rfl,hN,hb7⟩
    obtain ⟨Av,cv,rfl⟩:=Kd.N_slice hN
    replace hN:=Aside0.mk hN
    replace hb7:=Aside0.mk hb7
    clear y0 y1 y2 y3 hP2
    go_wp2
    go_ret2
    rw [hE4.out,← hD3.out]
    exact ansR_row hN.out (hw6.out.trans (hb7.out.mono hw6.out.size))
  ·have hkb : (t.f1 != q) = true:=bne_iff_ne.mpr hkq
   have hE3:=Aside0.mk (hE2.out.trans (if_neg hkq))
   clear hkq
   go_wp2
   go_ret2
   rw [hE3.out]
   exact ansR_err (by decide) hw4.out
theorem applyR_at (b : Nat) (l : List S41) (A : Option Addr) (c : Nat) (p : S25) (A5 : Option Addr) (a5 : Nat) (A6 : Option Addr) (a6 : Nat) (w : World) (hr : Kd.C k41 w A l.length l) (hc : l.length ≤ c) (hB : Bnd b l) (hb : b ≤ 100000000) (hq : SmallQ p) (rp : Rd w p A5 a5 A6 a6) (hn : l.length < 1024) : Calls Tryz.prog 24 #[.slice A l.length c,.agg #[.int .i64 p.f0,.string p.f1,.string p.f2,.string p.f3,.int .i64 p.f4,.slice A5 p.f5.length a5,.slice A6 p.f6.length a6]] w (AnsR w (doL l p) (applyE l p)):=by
 by_cases hno : treeB l = true ∧ primB p = true
 ·obtain ⟨ht,hp⟩:=hno
  have hE : applyE l p = doE l p:=by unfold applyE; rw [if_pos (by rw [ht,hp]; rfl)]
  rw [hE]
  rcases kinds4 hp with hk | hk | ⟨h7,h9⟩ | h10
  ·exact applyAdd_at b l A c p A5 a5 A6 a6 w hr hc hB hb hq rp ht hp hn hk
  ·exact applyRm_at b l A c p A5 a5 A6 a6 w hr hc hB hb hq rp ht hp hk
  ·exact applyCh_at b l A c p A5 a5 A6 a6 w hr hc hB hb hq rp ht hp h7 h9
  ·exact applyMove_at b l A c p A5 a5 A6 a6 w hr hc hB hb hq rp ht hp h10
 ·exact applyNo_at b l A c p A5 a5 A6 a6 w hr hc hB hb hq rp hno
theorem ans_row {w : World} {E : Int} {K : List S41} {S : Value} (h1 : E = 0 → ∃ A c,S = .slice A K.length c ∧ K.length ≤ c ∧ Kd.C k41 w A K.length K) (h2 : E ≠ 0 → S = .slice none 0 0) : ∃ A c,S = .slice A (if E = 0 then K else []).length c ∧ (if E = 0 then K else []).length ≤ c ∧ Kd.C k41 w A (if E = 0 then K else []).length (if E = 0 then K else []):=by
 by_cases h : E = 0
 ·rw [if_pos h]
  exact h1 h
 ·rw [if_neg h]
  exact ⟨none,0,h2 h,Nat.le_refl _,Kd.C_nil _ _⟩
theorem sameRow_at (M : List S41) (hn : M.length ≤ 1024) (hx : ∀ x ∈ M,x.f2.length ≤ 140737488355328) (A : Option Addr) (c : Nat) (B : Option Addr) (d : Nat) (w : World) (h0 : Kd.C k41 w A M.length M) (h1 : M.length ≤ c) (h2 : Kd.C k41 w B M.length M) (h3 : M.length ≤ d) :
  ∀ U,Below w.heap.size w U → Calls Tryz.prog 27 #[.slice A M.length c,.slice B M.length d] U fun e w' => e = .returned (.bool true) ∧ Below U.heap.size U w' :=
 fun U h => sameE_at M (by omega) hx A c B d U (Kd.C_below h0 h) h1 (Kd.C_below h2 h) h3
theorem primP_at (x : S25) (A5 : Option Addr) (c5 : Nat) (A6 : Option Addr) (c6 : Nat) (w : World) (hx : Okp x) (rx : Rd w x A5 c5 A6 c6) : ∀ U,Below w.heap.size w U →
  Calls Tryz.prog 25 #[.agg #[.int .i64 x.f0,.string x.f1,.string x.f2,.string x.f3,.int .i64 x.f4,.slice A5 x.f5.length c5,.slice A6 x.f6.length c6]] U fun e w' => e = .returned (.bool (primB x)) ∧ Below U.heap.size U w':=fun U hU => by
 obtain ⟨k,hk⟩:=(prim_right x hx).rounds
 have r:=rx.below hU
 exact prim_Right.calls k _ _ _ _ _ _ _ _ _ _ _ _ U r.g5 r.l5 r.g6 r.l6 hk
set_option maxHeartbeats 4000000 in
set_option maxRecDepth 1000000 in
theorem ptells_calls (l : List S41) (A : Option Addr) (c : Nat) (p : S25) (A5 : Option Addr) (a5 : Nat) (A6 : Option Addr) (a6 : Nat) (w : World) (hr : Kd.C k41 w A l.length l) (hc : l.length ≤ c) (hn : l.length ≤ 140737488355328) (hx : ∀ x ∈ l,x.f2.length ≤ 140737488355328) (hp : Okp p) (rp : Rd w p A5 a5 A6 a6) :
  Calls Tryz.prog 3 #[.slice A l.length c,.agg #[.int .i64 p.f0,.string p.f1,.string p.f2,.string p.f3,.int .i64 p.f4,.slice A5 p.f5.length a5,.slice A6 p.f6.length a6]] w fun e w' => e = .returned (.bool true) ∧ Below w.heap.size w w':=by
 obtain ⟨g,hgs,hG⟩:=G_at l A c w hr hc hn hx
 obtain ⟨k,hks,hK⟩:=K_at p A5 a5 A6 a6 w hp rp
 replace hG:=Aside0.mk hG
 replace hK:=Aside0.mk hK
 replace hgs:=Aside0.mk hgs
 replace hks:=Aside0.mk hks
 replace hn:=Aside0.mk hn
 replace hx:=Aside0.mk hx
 replace hr:=Aside0.mk hr
 replace hc:=Aside0.mk hc
 replace hp:=Aside0.mk hp
 replace rp:=Aside0.mk rp
 go_enter Tryz.func3,Tryz.ntmps3
 go_wp2_with (fail)
 refine (head08_calls _).mono ?_
 rintro e w1 ⟨rfl,hb1⟩
 have hs1 : Below w.heap.size w w1:=two_steps (by repeat (first | exact Below.refl _ _ | refine Below.setCell ?_ (by simp <;> omega) _ | refine Below.alloc ?_ (by simp <;> omega) _ | refine Below.drew ?_)) hb1
 have hw1 : Below w.heap.size w w1:=(Below.refl w.heap.size w).trans (hs1.mono (Below.refl w.heap.size w).size)
 have xp : w1.heap[w.heap.size]? = some (.cells #[.int .i64 p.f0,.string p.f1,.string p.f2,.string p.f3,.int .i64 p.f4,.slice A5 p.f5.length a5,.slice A6 p.f6.length a6] 25 (0,0)):=blk_below (blk_new w _) hb1
 clear hb1
 obtain ⟨pc0,pc1,pc2,pc3,pc4,pc5,pc6⟩:=cells7 xp
 go_wp2_with (fail)
 refine (hG.out _ (by repeat (first | with_reducible exact hw1 | refine Below.setCell ?_ (by have:=hw1.size; simp <;> omega) _ | refine Below.alloc ?_ (by have:=hw1.size; simp <;> omega) _ | refine Below.drew ?_))).mono ?_
 rintro e w2 ⟨rfl,hb2⟩
 clear pc0 pc1 pc2 pc3 pc4 pc5 pc6
 have hs2 : Below w1.heap.size w1 w2:=two_steps (by repeat (first | exact Below.refl _ _ | refine Below.setCell ?_ (by simp <;> omega) _ | refine Below.alloc ?_ (by simp <;> omega) _ | refine Below.drew ?_)) hb2
 have hw2 : Below w.heap.size w w2:=hw1.trans (hs2.mono hw1.size)
 have xp:=blk_below xp hs2
 clear hb2
 obtain ⟨pc0,pc1,pc2,pc3,pc4,pc5,pc6⟩:=cells7 xp
 cases g with
 | true =>
  go_wp2
  go_ret
  exact ⟨rfl,(by repeat (first | with_reducible exact hw2 | refine Below.setCell ?_ (by have:=hw2.size; simp <;> omega) _ | refine Below.alloc ?_ (by have:=hw2.size; simp <;> omega) _ | refine Below.drew ?_))⟩
 | false =>
  go_wp2_with (fail)
  refine (hK.out _ (by repeat (first | with_reducible exact hw2 | refine Below.setCell ?_ (by have:=hw2.size; simp <;> omega) _ | refine Below.alloc ?_ (by have:=hw2.size; simp <;> omega) _ | refine Below.drew ?_))).mono ?_
  rintro e w3 ⟨rfl,hb3⟩
  clear pc0 pc1 pc2 pc3 pc4 pc5 pc6
  have hs3 : Below w2.heap.size w2 w3:=two_steps (by repeat (first | exact Below.refl _ _ | refine Below.setCell ?_ (by simp <;> omega) _ | refine Below.alloc ?_ (by simp <;> omega) _ | refine Below.drew ?_)) hb3
  have hw3 : Below w.heap.size w w3:=hw2.trans (hs3.mono hw2.size)
  have xp:=blk_below xp hs3
  clear hb3
  obtain ⟨pc0,pc1,pc2,pc3,pc4,pc5,pc6⟩:=cells7 xp
  cases k with
  | true =>
   go_wp2
   go_ret
   exact ⟨rfl,(by repeat (first | with_reducible exact hw3 | refine Below.setCell ?_ (by have:=hw3.size; simp <;> omega) _ | refine Below.alloc ?_ (by have:=hw3.size; simp <;> omega) _ | refine Below.drew ?_))⟩
  | false =>
   have hsm:=Aside0.mk (hgs.out (by trivial))
   have hsp:=Aside0.mk (hks.out (by trivial))
   have hA:=A_at l A c p A5 a5 A6 a6 w hr.out rp.out (small_fit hsm.out.2) (small_fitP hsp.out hp.out)
   have hR:=fun U (h : Below w.heap.size w U) => applyR_at 4000 l A c p A5 a5 A6 a6 U (Kd.C_below hr.out h) hc.out (small_bnd hsm.out.2) (by decide) (smallq hsp.out) (rp.out.below h) (by have:=hsm.out.1; omega)
   have hMb : applyE l p = 0 → (doL l p).length ≤ 1024 ∧ ∀ x ∈ doL l p,x.f2.length ≤ 140737488355328:=fun h => ⟨(apply_tree h).n,fun x hx => Nat.le_trans ((bnd_do (small_bnd hsm.out.2) (smallq hsp.out) h).n x hx) (by decide)⟩
   have hP1:=primP_at p A5 a5 A6 a6 w hp.out rp.out
   have hP2:=fun U (h : Below w.heap.size w U) => primR_at p A5 a5 A6 a6 U (okq_small (smallq hsp.out)) (rp.out.below h)
   obtain ⟨q,hqq⟩ : ∃ q,primB p = q:=⟨_,rfl⟩
   rw [hqq] at hP1 hP2
   clear hqq
   obtain ⟨E,hE⟩ : ∃ E,applyE l p = E:=⟨_,rfl⟩
   obtain ⟨K,hK2⟩ : ∃ K,doL l p = K:=⟨_,rfl⟩
   rw [hE,hK2] at hA hR hMb
   clear hE hK2
   obtain ⟨M,hM⟩ : ∃ M,(if E = 0 then K else []) = M:=⟨_,rfl⟩
   have hMx : Aside0 (M.length ≤ 1024 ∧ ∀ x ∈ M,x.f2.length ≤ 140737488355328):=⟨by
    rw [← hM]
    split
    ·rename_i h; exact hMb h
    ·exact ⟨Nat.zero_le _,fun x hx => by cases hx⟩⟩
   clear hMb
   replace hM:=Aside0.mk hM
   replace hA:=Aside0.mk hA
   replace hR:=Aside0.mk hR
   replace hP1:=Aside0.mk hP1
   replace hP2:=Aside0.mk hP2
   go_wp2_with (fail)
   refine (hA.out _ (by repeat (first | with_reducible exact hw3 | refine Below.setCell ?_ (by have:=hw3.size; simp <;> omega) _ | refine Below.alloc ?_ (by have:=hw3.size; simp <;> omega) _ | refine Below.drew ?_))).mono ?_
   rintro e w4 ⟨S1,rfl,hb4,hS,hSn⟩
   clear pc0 pc1 pc2 pc3 pc4 pc5 pc6
   have hs4 : Below w3.heap.size w3 w4:=two_steps (by repeat (first | exact Below.refl _ _ | refine Below.setCell ?_ (by simp <;> omega) _ | refine Below.alloc ?_ (by simp <;> omega) _ | refine Below.drew ?_)) hb4
   have hw4 : Below w.heap.size w w4:=hw3.trans (hs4.mono hw3.size)
   have xp:=blk_below xp hs4
   have hrow1:=ans_row hS hSn
   rw [hM.out] at hrow1
   obtain ⟨A1,c1,rfl,hl1,hC1⟩:=hrow1
   replace hl1:=Aside0.mk hl1
   replace hC1:=Aside0.mk hC1
   clear hS hSn
   clear hb4
   obtain ⟨pc0,pc1,pc2,pc3,pc4,pc5,pc6⟩:=cells7 xp
   go_wp2_with (fail)
   refine (hR.out _ (by repeat (first | with_reducible exact hw4 | refine Below.setCell ?_ (by have:=hw4.size; simp <;> omega) _ | refine Below.alloc ?_ (by have:=hw4.size; simp <;> omega) _ | refine Below.drew ?_))).mono ?_
   rintro e w5 ⟨S2,rfl,hb5,hS,hSn⟩
   clear pc0 pc1 pc2 pc3 pc4 pc5 pc6
   have hs5 : Below w4.heap.size w4 w5:=two_steps (by repeat (first | exact Below.refl _ _ | refine Below.setCell ?_ (by simp <;> omega) _ | refine Below.alloc ?_ (by simp <;> omega) _ | refine Below.drew ?_)) hb5
   have hw5 : Below w.heap.size w w5:=hw4.trans (hs5.mono hw4.size)
   have xp:=blk_below xp hs5
   have hrow2:=ans_row hS hSn
   rw [hM.out] at hrow2
   obtain ⟨A2,c2,rfl,hl2,hC2⟩:=hrow2
   replace hl2:=Aside0.mk hl2
   replace hC2:=Aside0.mk hC2
   clear hS hSn
   have hD1:=Aside0.mk (Kd.C_below hC1.out hb5)
   clear hb5
   obtain ⟨pc0,pc1,pc2,pc3,pc4,pc5,pc6⟩:=cells7 xp
   have hSm:=Aside0.mk (sameRow_at M hMx.out.1 hMx.out.2 A1 c1 A2 c2 w5 hD1.out hl1.out hC2.out hl2.out)
   have hwu:=Aside0.mk hw5
   go_upto_region 6 with (fail)
   refine wp_region_held_drew (S:=fun W => Below w5.heap.size w5 W) (by kernel_rfl) (below_drew (Below.refl _ _)) (fun _ => ?_)
   have hS : Below w5.heap.size w5 (World.drew w5):=below_drew (Below.refl _ _)
   generalize World.drew w5 = W at hS ⊢
   refine' tkE 0 30 hS ?_ ?_; rotate_left
   ·intro W' hSW; go_simp; (try with_reducible rfl)
   refine' tkE 1 31 hS ?_ ?_; rotate_left
   ·intro W' hSW; go_simp; (try with_reducible rfl)
   refine' tkE 2 32 hS ?_ ?_; rotate_left
   ·intro W' hSW; have r0:=pw_cell_below hSW pc0; have r1:=pw_cell_below hSW pc1; have r2:=pw_cell_below hSW pc2; have r3:=pw_cell_below hSW pc3; have r4:=pw_cell_below hSW pc4; have r5:=pw_cell_below hSW pc5; have r6:=pw_cell_below hSW pc6; go_simp; (try with_reducible rfl)
   refine' tkE 4 34 hS ?_ ?_; rotate_left
   ·intro W' hSW; have r0:=pw_cell_below hSW pc0; have r1:=pw_cell_below hSW pc1; have r2:=pw_cell_below hSW pc2; have r3:=pw_cell_below hSW pc3; have r4:=pw_cell_below hSW pc4; have r5:=pw_cell_below hSW pc5; have r6:=pw_cell_below hSW pc6; go_simp; (try with_reducible rfl)
   simp only [Act.put,List.setIfInBounds_toArray,List.set_cons_zero,List.set_cons_succ]
   refine wpAnyH_ready (rs:=[3]) (by kernel_rfl) (by simp) (AllReadyH.cons rfl (fun K hK => ?_) AllReadyH.nil)
   go_simp
   refine (hP1.out _ (hwu.out.trans (hS.mono hwu.out.size))).mono ?_
   rintro e W2 ⟨rfl,hb⟩
   replace hS:=hS.trans (hb.mono hS.size)
   refine hK.out _ _ hS (fun _ => ?_)
   clear hK K hb
   refine wpAnyH_ready (rs:=[5]) (by kernel_rfl) (by simp) (AllReadyH.cons rfl (fun K hK => ?_) AllReadyH.nil)
   go_simp
   refine (hP2.out _ (hwu.out.trans (hS.mono hwu.out.size))).mono ?_
   rintro e W2 ⟨rfl,hb⟩
   replace hS:=hS.trans (hb.mono hS.size)
   refine hK.out _ _ hS (fun _ => ?_)
   clear hK K hb
   have hqe : (q == q) = true:=by cases q <;> rfl
   have hEe : (E == E) = true:=by simp
   refine' tkE 6 36 hS ?_ ?_; rotate_left
   ·intro W' hSW; go_simp; (try with_reducible rfl)
   refine' tkE 7 37 hS ?_ ?_; rotate_left
   ·intro W' hSW; go_simp; (try with_reducible rfl)
   refine' tkE 8 38 hS ?_ ?_; rotate_left
   ·intro W' hSW; go_simp; (try with_reducible rfl)
   refine' tkE 9 39 hS ?_ ?_; rotate_left
   ·intro W' hSW; go_simp; (try with_reducible rfl)
   refine' tkE 10 40 hS ?_ ?_; rotate_left
   ·intro W' hSW; go_simp; (try with_reducible rfl)
   simp only [Act.put,List.setIfInBounds_toArray,List.set_cons_zero,List.set_cons_succ]
   refine wpAnyH_ready (rs:=[11]) (by kernel_rfl) (by simp) (AllReadyH.cons rfl (fun K hK => ?_) AllReadyH.nil)
   go_simp
   refine (hSm.out _ hS).mono ?_
   rintro e W2 ⟨rfl,hb⟩
   replace hS:=hS.trans (hb.mono hS.size)
   refine hK.out _ _ hS (fun _ => ?_)
   clear hK K hb
   refine' tkE 12 42 hS ?_ ?_; rotate_left
   ·intro W' hSW; go_simp; (try with_reducible rfl)
   refine' tkE 13 43 hS ?_ ?_; rotate_left
   ·intro W' hSW; go_simp; (try with_reducible rfl)
   refine' tkE 14 44 hS ?_ ?_; rotate_left
   ·intro W' hSW; go_simp; (try with_reducible rfl)
   refine' tkE 15 45 hS ?_ ?_; rotate_left
   ·intro W' hSW; go_simp; (try with_reducible rfl)
   refine' tkE 16 46 hS ?_ ?_; rotate_left
   ·intro W' hSW; go_simp; (try with_reducible rfl)
   refine' tkE 17 47 hS ?_ ?_; rotate_left
   ·intro W' hSW; go_simp; (try with_reducible rfl)
   refine' tkE 18 4 hS ?_ ?_; rotate_left
   ·intro W' hSW; go_simp; (try with_reducible rfl)
   simp only [Act.put,List.setIfInBounds_toArray,List.set_cons_zero,List.set_cons_succ]
   refine wpAnyH_done (by kernel_rfl) ?_ _
   have hfin:=Aside0.mk (hwu.out.trans (hS.mono hwu.out.size))
   clear hS
   go_wp2
   go_ret
   exact ⟨rfl,hfin.out⟩
theorem do_len1 {l : List S41} {p : S25} (h : applyE l p = 0) : (doL l p).length ≤ l.length + 1:=by
 have:=do_len h
 unfold dLen at this
 split at this
 ·omega
 ·split at this <;> omega
set_option maxHeartbeats 8000000 in
set_option maxRecDepth 1000000 in
theorem allR_at (b : Nat) (l : List S41) (A : Option Addr) (c : Nat) (ps : List S25) (P : Option Addr) (d : Nat) (w : World) (hr : Kd.C k41 w A l.length l) (hc : l.length ≤ c) (hps : Kd.C k25 w P ps.length ps) (hB : Bnd b l) (hb0 : b + 4000 * ps.length ≤ 100000000) (hn : l.length + ps.length < 1024) (hq : ∀ p ∈ ps,SmallQ p) :
  Calls Tryz.prog 30 #[.slice A l.length c,.slice P ps.length d] w (AnsA w (allE l ps)):=by
 have hT:=treeR_at l A c w hr hc hB.s (fun x hx => by have:=hB.n x hx; omega) (fun x hx s hs => by have:=(hB.r x hx s hs).size; omega)
 have HR:=Aside0.mk hr
 have HPS:=Aside0.mk hps
 have HC:=Aside0.mk hc
 have HQ:=Aside0.mk hq
 have HB0:=Aside0.mk hb0
 have HBN:=Aside0.mk hB
 obtain ⟨n,hnn⟩ : ∃ n,ps.length = n:=⟨_,rfl⟩
 rw [hnn] at hn HB0 ⊢
 rw [hnn] at HPS
 have HN:=Aside0.mk hnn
 have HL:=Aside0.mk hn
 clear hr hps hc hq hb0 hB hnn
 cases ht : treeB l with
 | false =>
  rw [ht] at hT
  have he : Aside0 (allE l ps = ([],1,0)):=⟨by unfold allE; rw [ht]; rfl⟩
  clear ht
  go_enter Tryz.func30,Tryz.ntmps30
  go_wp2_with (go_at_call 31; refine hT.mono ?_; rintro e w1 ⟨rfl,hb⟩)
  go_ret3
  exact ⟨hb,by rw [he.out,if_neg (by decide)]; rfl⟩
 | true =>
  rw [ht] at hT
  have he : Aside0 (allE l ps = allV l ps 0):=⟨by unfold allE; rw [ht]; rfl⟩
  clear ht
  go_enter Tryz.func30,Tryz.ntmps30
  go_wp2_with (go_at_call 31; refine hT.mono ?_; rintro e w1 ⟨rfl,hb1⟩; replace hb1:=Aside0.mk hb1)
  go_loopg [0,7] n (fun kq u0 u7 w' => ∃ (i : Nat) (M : List S41) (AM : Option Addr) (cM : Nat),u7 = .int .i64 (i : Int) ∧ u0 = .slice AM M.length cM ∧ Aside0 (i + kq = n) ∧ Aside0 (Bnd (b + 4000 * i) M ∧ M.length ≤ l.length + i) ∧ Aside0 (allV M (ps.drop i) i = allV l ps 0) ∧ Aside0 (M.length ≤ cM ∧ Kd.C k41 w' AM M.length M) ∧ Aside0 (Below w.heap.size w w'))
  case atStart => exact ⟨0,l,A,c,rfl,rfl,⟨by omega⟩,⟨HBN.out,Nat.le_refl _⟩,⟨rfl⟩,⟨HC.out,Kd.C_below HR.out hb1.out⟩,hb1⟩
  case round =>
   clear hb1 hT
   obtain ⟨i,M,AM,cM,rfl,rfl,hk,hinv,hall,hCM,hBM⟩:=hrel
   by_cases hi : i < n
   ·have hil : i < ps.length:=by rw [HN.out]; exact hi
    have hcmp : decide ((i : Int) < (n : Int)) = true:=decide_eq_true (by omega)
    have i0 : (0 : Int) ≤ (i : Int):=by omega
    have i1 : (i : Int) < (n : Int):=by omega
    have hwi : IntKind.i64.wrap ((i : Int) + 1) = (i : Int) + 1:=wrap_small _ (by omega) (by omega)
    obtain ⟨ad,A5,c5,A6,c6,hP,x0,x1,x2,x3,x4,x5,x6,l5,g5,l6,g6⟩:=at_T25 (Kd.C_below HPS.out hBM.out) (i : Int) i0 i1
    have hrd : rd_T25 ps (i : Int) = ps[i]:=by unfold rd_T25; rw [Int.toNat_natCast,List.getD_eq_getElem?_getD,List.getElem?_eq_getElem hil]; rfl
    have hdrop : ps.drop i = ps[i] :: ps.drop (i + 1):=List.drop_eq_getElem_cons hil
    have hsq:=HQ.out _ (List.getElem_mem hil)
    rw [hrd] at x0 x1 x2 x3 x4 x5 x6 l5 g5 l6 g6
    rw [Int.toNat_natCast] at x0 x1 x2 x3 x4 x5 x6
    obtain ⟨p,hp⟩ : ∃ p,ps[i] = p:=⟨_,rfl⟩
    rw [hp] at x0 x1 x2 x3 x4 x5 x6 l5 g5 l6 g6 hdrop hsq
    subst hP
    have hA:=applyR_at (b + 4000 * i) M AM cM p A5 c5 A6 c6 wr hCM.out.2 hCM.out.1 hinv.out.1 (by have:=HB0.out; omega) hsq ⟨g5,l5,g6,l6⟩ (by have:=hinv.out.2; have:=HL.out; omega)
    have hnext : Aside0 (applyE M p = 0 → Bnd (b + 4000 * (i + 1)) (doL M p) ∧ (doL M p).length ≤ l.length + (i + 1)):=⟨fun h => ⟨(bnd_do hinv.out.1 hsq h).mono (by omega),by have:=do_len1 h; have:=hinv.out.2; omega⟩⟩
    replace hA:=Aside0.mk hA
    replace hdrop:=Aside0.mk hdrop
    clear l5 g5 l6 g6 hp hrd hsq
    obtain ⟨E,hE⟩ : ∃ E,applyE M p = E:=⟨_,rfl⟩
    obtain ⟨M2,hM2⟩ : ∃ M2,doL M p = M2:=⟨_,rfl⟩
    rw [hE,hM2] at hA hnext
    have hstep : Aside0 (allV M (p :: ps.drop (i + 1)) i = if E = 0 then allV M2 (ps.drop (i + 1)) (i + 1) else ([],E,i)):=⟨by rw [← hE,← hM2]; rfl⟩
    clear hE hM2
    by_cases hz : E = 0
    ·have hnx:=Aside0.mk (hnext.out hz)
     have hst2 : Aside0 (allV M (p :: ps.drop (i + 1)) i = allV M2 (ps.drop (i + 1)) (i + 1)):=⟨by rw [hstep.out,if_pos hz]⟩
     clear hnext hstep
     subst hz
     go_upto_region 7 with (go_at_call 24; refine hA.out.mono ?_; rintro e w4 ⟨S,rfl,hb4,hS,-⟩; obtain ⟨A4,c4,rfl,hl4,hC4⟩:=hS rfl; replace hC4:=Aside0.mk hC4; replace hb4:=Aside0.mk hb4; replace hl4:=Aside0.mk hl4; clear hS)
     clear x0 x1 x2 x3 x4 x5 x6
     go_wp2
     go_roundg (n - (i + 1))
     case measure => have:=hk.out; omega
     case rel => exact ⟨i + 1,M2,A4,c4,by simp,rfl,⟨by omega⟩,hnx,⟨by rw [← hall.out,hdrop.out,hst2.out]⟩,⟨hl4.out,hC4.out⟩,⟨hBM.out.trans (hb4.out.mono hBM.out.size)⟩⟩
    ·have hne : (E != 0) = true:=by rw [bne_iff_ne]; exact hz
     have hst2 : Aside0 (allE l ps = ([],E,i)):=⟨by rw [he.out,← hall.out,hdrop.out,hstep.out,if_neg hz]⟩
     clear hnext hstep
     replace hz:=Aside0.mk hz
     go_upto_region 7 with (go_at_call 24; refine hA.out.mono ?_; rintro e w4 ⟨S,rfl,hb4,-,hS⟩; obtain rfl:=hS hz.out; replace hb4:=Aside0.mk hb4; clear hS)
     clear x0 x1 x2 x3 x4 x5 x6
     go_wp2
     go_ret3
     refine ⟨hBM.out.trans (hb4.out.mono hBM.out.size),?_⟩
     rw [hst2.out]
     exact (if_neg (c:=E = 0) hz.out).symm ▸ rfl
   ·have hcmp : decide ((i : Int) < (n : Int)) = false:=decide_eq_false (by omega)
    have hdrop : ps.drop i = []:=List.drop_of_length_le (by rw [HN.out]; omega)
    have hst2 : Aside0 (allE l ps = (M,0,0)):=⟨by rw [he.out,← hall.out,hdrop]; rfl⟩
    clear hdrop
    go_wp2
    go_ret3
    refine ⟨hBM.out,?_⟩
    rw [hst2.out]
    exact (if_pos (c:=(0 : Int) = 0) rfl).symm ▸ ⟨AM,cM,rfl,hCM.out.1,hCM.out.2⟩
set_option maxHeartbeats 4000000 in
set_option maxRecDepth 1000000 in
theorem pall_calls (l : List S41) (A : Option Addr) (c : Nat) (ps : List S25) (P : Option Addr) (d : Nat) (w : World) (hr : Kd.C k41 w A l.length l) (hc : l.length ≤ c) (hn : l.length ≤ 140737488355328) (hx : ∀ x ∈ l,x.f2.length ≤ 140737488355328) (hps : Kd.C k25 w P ps.length ps) (hd : ps.length ≤ d) (hm : ps.length ≤ 1256584717458) (ho : ∀ p ∈ ps,Okp p) :
  Calls Tryz.prog 4 #[.slice A l.length c,.slice P ps.length d] w fun e w' => e = .returned (.bool true) ∧ Below w.heap.size w w':=by
 obtain ⟨g,hgs,hG⟩:=G_at l A c w hr hc hn hx
 obtain ⟨k2,hks2,hK2⟩:=GL_at ps P d w hps hd hm ho
 replace hG:=Aside0.mk hG
 replace hK2:=Aside0.mk hK2
 replace hgs:=Aside0.mk hgs
 replace hks2:=Aside0.mk hks2
 replace hn:=Aside0.mk hn
 replace hx:=Aside0.mk hx
 replace hr:=Aside0.mk hr
 replace hc:=Aside0.mk hc
 replace hps:=Aside0.mk hps
 replace hd:=Aside0.mk hd
 replace hm:=Aside0.mk hm
 replace ho:=Aside0.mk ho
 go_enter Tryz.func4,Tryz.ntmps4
 go_wp2_with (fail)
 refine (head08_calls _).mono ?_
 rintro e w1 ⟨rfl,hb1⟩
 have hs1 : Below w.heap.size w w1:=two_steps (by repeat (first | exact Below.refl _ _ | refine Below.setCell ?_ (by simp <;> omega) _ | refine Below.alloc ?_ (by simp <;> omega) _ | refine Below.drew ?_)) hb1
 have hw1 : Below w.heap.size w w1:=(Below.refl w.heap.size w).trans (hs1.mono (Below.refl w.heap.size w).size)
 clear hb1
 go_wp2_with (fail)
 refine (hG.out _ (by repeat (first | with_reducible exact hw1 | refine Below.setCell ?_ (by have:=hw1.size; simp <;> omega) _ | refine Below.alloc ?_ (by have:=hw1.size; simp <;> omega) _ | refine Below.drew ?_))).mono ?_
 rintro e w2 ⟨rfl,hb2⟩
 have hs2 : Below w1.heap.size w1 w2:=two_steps (by repeat (first | exact Below.refl _ _ | refine Below.setCell ?_ (by simp <;> omega) _ | refine Below.alloc ?_ (by simp <;> omega) _ | refine Below.drew ?_)) hb2
 have hw2 : Below w.heap.size w w2:=hw1.trans (hs2.mono hw1.size)
 clear hb2
 cases g with
 | true =>
  go_wp2
  go_ret
  exact ⟨rfl,(by repeat (first | with_reducible exact hw2 | refine Below.setCell ?_ (by have:=hw2.size; simp <;> omega) _ | refine Below.alloc ?_ (by have:=hw2.size; simp <;> omega) _ | refine Below.drew ?_))⟩
 | false =>
  go_wp2_with (fail)
  refine (hK2.out _ (by repeat (first | with_reducible exact hw2 | refine Below.setCell ?_ (by have:=hw2.size; simp <;> omega) _ | refine Below.alloc ?_ (by have:=hw2.size; simp <;> omega) _ | refine Below.drew ?_))).mono ?_
  rintro e w3 ⟨rfl,hb3⟩
  have hs3 : Below w2.heap.size w2 w3:=two_steps (by repeat (first | exact Below.refl _ _ | refine Below.setCell ?_ (by simp <;> omega) _ | refine Below.alloc ?_ (by simp <;> omega) _ | refine Below.drew ?_)) hb3
  have hw3 : Below w.heap.size w w3:=hw2.trans (hs3.mono hw2.size)
  clear hb3
  cases k2 with
  | true =>
   go_wp2
   go_ret
   exact ⟨rfl,(by repeat (first | with_reducible exact hw3 | refine Below.setCell ?_ (by have:=hw3.size; simp <;> omega) _ | refine Below.alloc ?_ (by have:=hw3.size; simp <;> omega) _ | refine Below.drew ?_))⟩
  | false =>
   have hsm:=Aside0.mk (hgs.out (by trivial))
   have hsq:=Aside0.mk (hks2.out (by trivial))
   have hq2 : Aside0 (∀ z ∈ ps,SmallQ z):=⟨fun z hz => smallq (hsq.out.2 z hz)⟩
   have hor:=allE_or l ps
   have hA:=L_at 4000 l A c ps P d w hr.out hps.out (small_bnd hsm.out.2) (by decide) (by have:=hsq.out.1; omega) hq2.out
   have hR:=fun U (h : Below w.heap.size w U) => allR_at 4000 l A c ps P d U (Kd.C_below hr.out h) hc.out (Kd.C_below hps.out h) (small_bnd hsm.out.2) (by have:=hsq.out.1; omega) (by have:=hsm.out.1; have:=hsq.out.1; omega) hq2.out
   have hMb : (allE l ps).2.1 = 0 → (allE l ps).1.length ≤ 1024 ∧ ∀ x ∈ (allE l ps).1,x.f2.length ≤ 140737488355328:=fun h => by
    rcases hor with ⟨K,h1,h2,h3⟩ | ⟨e,j,h1,h2,_⟩
    ·rw [h3]
     exact ⟨(run_tree _ _ _ (tree_iff.1 h1) h2).n,fun x hx => Nat.le_trans ((bnd_run _ 4000 l K (small_bnd hsm.out.2) hq2.out h2).n x hx) (by have:=hsq.out.1; omega)⟩
    ·rw [h2] at h
     exact absurd h h1
   obtain ⟨R,hRR⟩ : ∃ R,allE l ps = R:=⟨_,rfl⟩
   rw [hRR] at hA hR hMb
   clear hRR hor
   obtain ⟨K,E,Jx⟩:=R
   dsimp only at hA hMb
   obtain ⟨M,hM⟩ : ∃ M,(if E = 0 then K else []) = M:=⟨_,rfl⟩
   have hMx : Aside0 (M.length ≤ 1024 ∧ ∀ x ∈ M,x.f2.length ≤ 140737488355328):=⟨by
    rw [← hM]
    split
    ·rename_i h; exact hMb h
    ·exact ⟨Nat.zero_le _,fun x hx => by cases hx⟩⟩
   clear hMb
   replace hM:=Aside0.mk hM
   have hR2 : ∀ U,Below w.heap.size w U → Calls Tryz.prog 30 #[.slice A l.length c,.slice P ps.length d] U fun e w' => ∃ S,e = .returned (.tuple #[S,.int .i64 E,.int .i64 (Jx : Int)]) ∧ Below U.heap.size U w' ∧ (E = 0 → ∃ A c,S = .slice A K.length c ∧ K.length ≤ c ∧ Kd.C k41 w' A K.length K) ∧ (E ≠ 0 → S = .slice none 0 0):=fun U hU => by
    refine (hR U hU).mono ?_
    rintro e w' ⟨hb,hi⟩
    dsimp only at hi
    by_cases hz : E = 0
    ·rw [if_pos hz] at hi
     obtain ⟨A',c',rfl,h1,h2⟩:=hi
     exact ⟨_,by rw [hz],hb,fun _ => ⟨A',c',rfl,h1,h2⟩,fun h => absurd hz h⟩
    ·rw [if_neg hz] at hi
     exact ⟨_,hi,hb,fun h => absurd h hz,fun _ => rfl⟩
   clear hR
   replace hA:=Aside0.mk hA
   replace hR2:=Aside0.mk hR2
   go_wp2_with (fail)
   refine (hA.out _ (by repeat (first | with_reducible exact hw3 | refine Below.setCell ?_ (by have:=hw3.size; simp <;> omega) _ | refine Below.alloc ?_ (by have:=hw3.size; simp <;> omega) _ | refine Below.drew ?_))).mono ?_
   rintro e w4 ⟨S1,rfl,hb4,hS,hSn⟩
   have hs4 : Below w3.heap.size w3 w4:=two_steps (by repeat (first | exact Below.refl _ _ | refine Below.setCell ?_ (by simp <;> omega) _ | refine Below.alloc ?_ (by simp <;> omega) _ | refine Below.drew ?_)) hb4
   have hw4 : Below w.heap.size w w4:=hw3.trans (hs4.mono hw3.size)
   have hrow1:=ans_row hS hSn
   rw [hM.out] at hrow1
   obtain ⟨A1,c1,rfl,hl1,hC1⟩:=hrow1
   replace hl1:=Aside0.mk hl1
   replace hC1:=Aside0.mk hC1
   clear hS hSn
   clear hb4
   go_wp2_with (fail)
   refine (hR2.out _ (by repeat (first | with_reducible exact hw4 | refine Below.setCell ?_ (by have:=hw4.size; simp <;> omega) _ | refine Below.alloc ?_ (by have:=hw4.size; simp <;> omega) _ | refine Below.drew ?_))).mono ?_
   rintro e w5 ⟨S2,rfl,hb5,hS,hSn⟩
   have hs5 : Below w4.heap.size w4 w5:=two_steps (by repeat (first | exact Below.refl _ _ | refine Below.setCell ?_ (by simp <;> omega) _ | refine Below.alloc ?_ (by simp <;> omega) _ | refine Below.drew ?_)) hb5
   have hw5 : Below w.heap.size w w5:=hw4.trans (hs5.mono hw4.size)
   have hrow2:=ans_row hS hSn
   rw [hM.out] at hrow2
   obtain ⟨A2,c2,rfl,hl2,hC2⟩:=hrow2
   replace hl2:=Aside0.mk hl2
   replace hC2:=Aside0.mk hC2
   clear hS hSn
   have hD1:=Aside0.mk (Kd.C_below hC1.out hb5)
   clear hb5
   have hEe : (E == E) = true:=by simp
   have hJe : ((Jx : Int) == (Jx : Int)) = true:=by simp
   go_wp2_with (fail)
   refine ((sameRow_at M hMx.out.1 hMx.out.2 A1 c1 A2 c2 w5 hD1.out hl1.out hC2.out hl2.out) _ (Below.refl _ _)).mono ?_
   rintro e w6 ⟨rfl,hb6⟩
   have hs6 : Below w5.heap.size w5 w6:=two_steps (by repeat (first | exact Below.refl _ _ | refine Below.setCell ?_ (by simp <;> omega) _ | refine Below.alloc ?_ (by simp <;> omega) _ | refine Below.drew ?_)) hb6
   have hw6 : Below w.heap.size w w6:=hw5.trans (hs6.mono hw5.size)
   clear hb6
   go_wp2
   go_ret
   exact ⟨rfl,(by repeat (first | with_reducible exact hw6 | refine Below.setCell ?_ (by have:=hw6.size; simp <;> omega) _ | refine Below.alloc ?_ (by have:=hw6.size; simp <;> omega) _ | refine Below.drew ?_))⟩
end Go.Proofs.YthhohbidjhcjeaaGreatDoor.H
