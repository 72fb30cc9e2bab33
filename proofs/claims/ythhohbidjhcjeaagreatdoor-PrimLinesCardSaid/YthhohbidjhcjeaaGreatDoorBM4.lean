/- The order of paths: laws. Rows of entries by rising paths: what the search finds is what lies there. -/
import Derived.Test.YthhohbidjhcjeaaGreatDoorBM3
import Derived.Maps.AppendAt
import Derived.Lib.SliceRun
import Derived.Test.YthhohbidjhcjeaaGreatDoorBM1
import Derived.Test.YthhohbidjhcjeaaGreatDoorBM2
import Derived.Deep.RegionLaw
namespace Go.Proofs.YthhohbidjhcjeaaGreatDoor.H
open Go.RowKit Go.Proofs.YthhohbidjhcjeaaGreatDoor.Q
set_option linter.unusedVariables false
set_option linter.unusedSimpArgs false
theorem u8_eq {a b : UInt8} (h1 : ¬ a < b) (h2 : ¬ b < a) : a = b:=by
 have k1 : ¬ a.toNat < b.toNat:=fun h => h1 (UInt8.lt_iff_toNat_lt.mpr h)
 have k2 : ¬ b.toNat < a.toNat:=fun h => h2 (UInt8.lt_iff_toNat_lt.mpr h)
 exact UInt8.toNat_inj.mp (by omega)
theorem u8_lt {a b : UInt8} (h : a < b) : ¬ b < a:=fun k => by
 have k1:=UInt8.lt_iff_toNat_lt.mp h
 have k2:=UInt8.lt_iff_toNat_lt.mp k
 omega
theorem cb_self : ∀ a : List UInt8,Lib.compareBytes a a = 0
 | [] => rfl
 | a :: xs => by simp [Lib.compareBytes,cb_self xs]
theorem cb_neg : ∀ a b : List UInt8,Lib.compareBytes b a = - Lib.compareBytes a b
 | [],[] => rfl
 | [],_ :: _ => rfl
 | _ :: _,[] => rfl
 | a :: xs,b :: ys => by
  simp only [Lib.compareBytes,cb_neg xs ys]
  by_cases h1 : a < b
  ·have h2 : ¬ b < a:=fun h => by have:=UInt8.lt_iff_toNat_lt.mp h1; have:=UInt8.lt_iff_toNat_lt.mp h; omega
   simp [h1,h2]
  ·by_cases h2 : b < a
   ·simp [h1,h2]
   ·simp [h1,h2]
theorem cb_eq : ∀ a b : List UInt8,Lib.compareBytes a b = 0 → a = b
 | [],[],_ => rfl
 | [],_ :: _,h => by simp [Lib.compareBytes] at h
 | _ :: _,[],h => by simp [Lib.compareBytes] at h
 | a :: xs,b :: ys,h => by
  simp only [Lib.compareBytes] at h
  by_cases h1 : a < b
  ·simp [h1] at h
  ·by_cases h2 : b < a
   ·simp [h1,h2] at h
   ·simp only [h1,h2,if_false] at h
    have : a = b:=u8_eq h1 h2
    rw [this,cb_eq xs ys h]
theorem cb_trans : ∀ a b c : List UInt8,Lib.compareBytes a b < 0 → Lib.compareBytes b c < 0 → Lib.compareBytes a c < 0
 | [],[],_,h,_ => by simp [Lib.compareBytes] at h
 | _ :: _,[],_,h,_ => by simp [Lib.compareBytes] at h
 | _,_ :: _,[],_,h => by simp [Lib.compareBytes] at h
 | [],_ :: _,_ :: _,_,_ => by simp [Lib.compareBytes]
 | a :: xs,b :: ys,c :: zs,h,k => by
  simp only [Lib.compareBytes] at h k ⊢
  by_cases h1 : a < b
  ·by_cases k1 : b < c
   ·have : a < c:=UInt8.lt_iff_toNat_lt.mpr (by have:=UInt8.lt_iff_toNat_lt.mp h1; have:=UInt8.lt_iff_toNat_lt.mp k1; omega)
    simp [this]
   ·by_cases k2 : c < b
    ·simp [k1,k2] at k
    ·have : b = c:=u8_eq k1 k2
     subst this
     simp [h1]
  ·by_cases h2 : b < a
   ·simp [h1,h2] at h
   ·have : a = b:=u8_eq h1 h2
    subst this
    simp only [h1,h2,if_false] at h
    by_cases k1 : a < c
    ·simp [k1]
    ·by_cases k2 : c < a
     ·simp [k1,k2] at k
     ·simp only [k1,k2,if_false] at k ⊢
      exact cb_trans xs ys zs h k
theorem cb_less : ∀ a b : List UInt8,Op.bytesLess a b = decide (Lib.compareBytes a b < 0)
 | [],[] => rfl
 | [],_ :: _ => rfl
 | _ :: _,[] => rfl
 | a :: xs,b :: ys => by
  simp only [Lib.compareBytes,Op.bytesLess,cb_less xs ys]
  by_cases h1 : a < b
  ·simp [h1]
  ·by_cases h2 : b < a
   ·have hne : a ≠ b:=fun h => by subst h; exact h1 h2
    simp [h1,h2,hne]
   ·have:=u8_eq h1 h2
    subst this
    simp [h1]
/-- One path stands below another one. -/
def ltP (a b : ByteArray) : Bool:=Op.bytesLess a.toList b.toList
theorem cmp_lt (a b : ByteArray) : cmpP a b < 0 ↔ ltP a b = true:=by
 unfold cmpP ltP
 rw [cb_less,Go.ByteArray.toList_eq,Go.ByteArray.toList_eq]
 simp
theorem bytes_inj {a b : ByteArray} (h : a.data.toList = b.data.toList) : a = b:=by
 cases a; cases b
 simp only at h
 rw [Array.toList_inj.mp h]
theorem cmp_eq0 (a b : ByteArray) : cmpP a b = 0 ↔ a = b:=by
 unfold cmpP
 exact ⟨fun h => bytes_inj (cb_eq _ _ h),fun h => by rw [h,cb_self]⟩
theorem ltP_trans {a b c : ByteArray} (h : ltP a b = true) (k : ltP b c = true) : ltP a c = true:=(cmp_lt _ _).mp (cb_trans _ _ _ ((cmp_lt _ _).mpr h) ((cmp_lt _ _).mpr k))
theorem ltP_irrefl (a : ByteArray) : ltP a a = false:=by
 cases h : ltP a a with
 | false => rfl
 | true => have:=(cmp_lt _ _).mpr h; unfold cmpP at this; rw [cb_self] at this; omega
theorem ltP_asymm {a b : ByteArray} (h : ltP a b = true) : ltP b a = false:=by
 cases k : ltP b a with
 | false => rfl
 | true => have:=ltP_trans h k; rw [ltP_irrefl] at this; cases this
theorem ltP_total {a b : ByteArray} (h : ltP a b = false) (hne : a ≠ b) : ltP b a = true:=by
 refine (cmp_lt _ _).mp ?_
 have h1 : ¬ cmpP a b < 0:=fun k => by rw [(cmp_lt _ _).mp k] at h; cases h
 have h2 : ¬ cmpP a b = 0:=fun k => hne ((cmp_eq0 _ _).mp k)
 have h3 : cmpP b a = - cmpP a b:=cb_neg _ _
 omega
/-- By rising paths. -/
def Srt (l : List S41) : Prop:=l.Pairwise (fun x y => ltP x.f0 y.f0 = true)
/-- What lies at a path. -/
def findV (l : List S41) (p : ByteArray) : Option S41:=l.find? (fun x => decide (x.f0 = p))
theorem srt_get {l : List S41} (h : Srt l) {a b : Nat} (hab : a < b) (hb : b < l.length) : ltP (l.getD a z41).f0 (l.getD b z41).f0 = true:=by
 have h2:=List.pairwise_iff_getElem.mp h a b (by omega) hb hab
 simpa [List.getD,List.getElem?_eq_getElem hb,List.getElem?_eq_getElem (show a < l.length by omega)] using h2
theorem srt_mono {l : List S41} (h : Srt l) (p : ByteArray) : Mono l p:=by
 intro a b hab hb hlt
 rcases Nat.lt_or_ge a b with hl | hg
 ·exact (cmp_lt _ _).mpr (ltP_trans (srt_get h hl hb) ((cmp_lt _ _).mp hlt))
 ·rw [show a = b by omega]; exact hlt
theorem lowB_nil (p : ByteArray) : lowB [] p = 0:=rfl
theorem lowB_cons (x : S41) (l : List S41) (p : ByteArray) : lowB (x :: l) p = lowB l p + (if ltP x.f0 p = true then 1 else 0):=by
 unfold lowB
 rw [List.countP_cons]
 congr 1
 by_cases h : ltP x.f0 p = true
 ·rw [if_pos h,if_pos (by simpa using (cmp_lt _ _).mpr h)]
 ·rw [if_neg h,if_neg (by simpa using fun k => h ((cmp_lt _ _).mp k))]
theorem lowB_zero {l : List S41} {p : ByteArray} (h : ∀ x ∈ l,ltP x.f0 p = false) : lowB l p = 0:=by
 unfold lowB
 rw [List.countP_eq_zero]
 intro x hx
 have hk : ¬ cmpP x.f0 p < 0:=fun k => by have:=(cmp_lt x.f0 p).mp k; rw [h x hx] at this; cases this
 simpa using hk
theorem srt_cons {x : S41} {l : List S41} : Srt (x :: l) ↔ (∀ y ∈ l,ltP x.f0 y.f0 = true) ∧ Srt l:=List.pairwise_cons
/-- What the search answers of a row by rising paths. -/
theorem has_find : ∀ {l : List S41},Srt l → ∀ p,hasB l p = (findV l p).isSome ∧ (∀ x,findV l p = some x → l.getD (lowB l p) z41 = x ∧ lowB l p < l.length)
 | [],_,p => ⟨rfl,fun x h => by simp [findV] at h⟩
 | y :: l,h,p => by
  obtain ⟨hy,hl⟩:=srt_cons.mp h
  obtain ⟨ih1,ih2⟩:=has_find hl p
  by_cases hlt : ltP y.f0 p = true
  ·have hne : y.f0 ≠ p:=fun k => by rw [k,ltP_irrefl] at hlt; cases hlt
   have hf : findV (y :: l) p = findV l p:=by unfold findV; rw [List.find?_cons_of_neg (by simpa using hne)]
   have hlo : lowB (y :: l) p = lowB l p + 1:=by rw [lowB_cons,if_pos hlt]
   have hg : (y :: l).getD (lowB l p + 1) z41 = l.getD (lowB l p) z41:=by simp [List.getD]
   refine ⟨?_,fun x hx => ?_⟩
   ·rw [hf,← ih1]
    unfold hasB
    rw [hlo,hg]
    simp
   ·rw [hf] at hx
    rw [hlo,hg]
    exact ⟨(ih2 x hx).1,by simpa using (ih2 x hx).2⟩
  ·have hlo : lowB (y :: l) p = 0:=lowB_zero (fun x hx => by
    rcases List.mem_cons.mp hx with rfl | hx
    ·simpa using hlt
    ·cases k : ltP x.f0 p with
     | false => rfl
     | true => exact absurd (ltP_trans (hy x hx) k) hlt)
   by_cases he : y.f0 = p
   ·have hf : findV (y :: l) p = some y:=by unfold findV; rw [List.find?_cons_of_pos (by simpa using he)]
    refine ⟨?_,fun x hx => ?_⟩
    ·rw [hf]
     unfold hasB
     rw [hlo]
     simp [he,(cmp_eq0 p p).mpr rfl]
    ·rw [hf] at hx
     rw [hlo,Option.some.inj hx]
     simp
   ·have hgt : ltP p y.f0 = true:=ltP_total (by simpa using hlt) he
    have hnone : findV (y :: l) p = none:=by
     unfold findV
     rw [List.find?_eq_none]
     intro x hx
     rcases List.mem_cons.mp hx with rfl | hx
     ·simpa using he
     ·have ht:=ltP_trans hgt (hy x hx)
      have hk : ¬ x.f0 = p:=fun k => by rw [k,ltP_irrefl] at ht; cases ht
      simpa using hk
    refine ⟨?_,fun x hx => by rw [hnone] at hx; cases hx⟩
    rw [hnone]
    unfold hasB
    rw [hlo]
    have : ¬ cmpP y.f0 p = 0:=fun k => he ((cmp_eq0 _ _).mp k)
    simp [this]
end Go.Proofs.YthhohbidjhcjeaaGreatDoor.H
namespace Go.Proofs.YthhohbidjhcjeaaGreatDoor.H
open Go.RowKit Go.Shelf Go.Proofs.YthhohbidjhcjeaaGreatDoorW.PrintWords Go.Proofs.YthhohbidjhcjeaaGreatDoorW.PrintLast Go.Proofs.YthhohbidjhcjeaaGreatDoorW.PrintMore
open Go.Proofs.YthhohbidjhcjeaaGreatDoor.Q
set_option linter.unusedVariables false
set_option linter.unusedSimpArgs false
theorem where_at (l : List S41) (A : Option Addr) (c : Nat) (p : ByteArray) (w : World) (hr : Kd.C k41 w A l.length l) (hl : l.length ≤ 1000000000) (hs : Srt l) :
  Calls Tryz.prog 92 #[.slice A l.length c,.string p] w fun e w' => e = .returned (.tuple #[.int .i64 (lowB l p : Nat),.bool (findV l p).isSome]) ∧ Below w.heap.size w w':=by
 have hC:=bsearch_at l A c p w hr hl (srt_mono hs p)
 rw [(has_find hs p).1] at hC
 clear hr hl hs
 go_enter Tryz.func92,Tryz.ntmps92
 go_wp2_with (go_at_call 130; refine hC.mono ?_; rintro e w' ⟨rfl,hb⟩)
 go_ret2
 exact ⟨rfl,hb⟩
/-- The parent of a path. -/
def parentV (p : ByteArray) : Option ByteArray:=if Lib.lastIndexByte p 47 < 0 then none else some (p.extract 0 (Lib.lastIndexByte p 47).toNat)
theorem parent_calls (p : ByteArray) (w : World) (hp : p.size ≤ 1000000000000) :
  Calls Tryz.prog 89 #[.string p] w fun e w' => e = .returned (.tuple #[.string ((parentV p).getD ⟨#[]⟩),.bool (parentV p).isSome]) ∧ w' = w:=by
 have hC:=fun W => Tryz.strings_LastIndexByte p 47 (by omega) W
 rcases Lib.lastIndexByte_spec p 47 with ⟨he,_⟩ | ⟨k,hk,he,_⟩
 ·have hv : parentV p = none:=by unfold parentV; rw [he]; rfl
  rw [hv]
  rw [he] at hC
  go_enter Tryz.func89,Tryz.ntmps89
  go_wp2_with (go_at_call 129; refine (hC _).mono ?_; rintro e w' ⟨rfl,rfl⟩)
  go_ret2
  exact ⟨rfl,rfl⟩
 ·have hv : parentV p = some (p.extract 0 k):=by unfold parentV; rw [he,if_neg (by omega),Int.toNat_natCast]
  rw [hv]
  rw [he] at hC
  have h1 : decide ((k : Int) < 0) = false:=decide_eq_false (by omega)
  have h2 : (k : Int) ≤ (p.size : Int):=by omega
  have h3 : (0 : Int) ≤ (k : Int):=by omega
  clear he hv
  go_enter Tryz.func89,Tryz.ntmps89
  go_wp2_with (go_at_call 129; refine (hC _).mono ?_; rintro e w' ⟨rfl,rfl⟩)
  go_ret2
  exact ⟨by simp,rfl⟩
theorem parentV_size {p q : ByteArray} (h : parentV p = some q) : q.size < p.size:=by
 unfold parentV at h
 rcases Lib.lastIndexByte_spec p 47 with ⟨he,_⟩ | ⟨k,hk,he,_⟩
 ·rw [he] at h; simp at h
 ·rw [he,if_neg (by omega),Int.toNat_natCast] at h
  rw [← Option.some.inj h]
  simp
  omega
/-- May something come to lie at a path? (0: it may.) -/
def roomV (l : List S41) (p : ByteArray) : Int :=
 if (findV l p).isSome then 71 else match parentV p with
 | none => 0
 | some up => match findV l up with
  | none => 72
  | some x => if x.f1 = 1 then 0 else 73
set_option maxHeartbeats 4000000 in
set_option maxRecDepth 1000000 in
theorem room_at (l : List S41) (A : Option Addr) (c : Nat) (p : ByteArray) (w : World) (hr : Kd.C k41 w A l.length l) (hl : l.length ≤ 1000000000) (hs : Srt l) (hp : p.size ≤ 1000000000000) :
  Calls Tryz.prog 91 #[.slice A l.length c,.string p] w fun e w' => e = .returned (.int .i64 (roomV l p)) ∧ Below w.heap.size w w':=by
 have hW:=fun q W (hb : Below w.heap.size w W) => where_at l A c q W (Kd.C_below hr hb) hl hs
 have hP:=fun W => parent_calls p W hp
 have HR:=Aside0.mk hr
 have HS:=Aside0.mk hs
 have HL:=Aside0.mk hl
 clear hr hs hl
 cases hf : (findV l p).isSome with
 | true =>
  have hv : roomV l p = 71:=by unfold roomV; rw [hf]; rfl
  rw [hv]
  have h1:=hW p w (Below.refl _ _)
  rw [hf] at h1
  clear hv hf hW hP
  go_enter Tryz.func91,Tryz.ntmps91
  go_wp2_with (go_at_call 92; refine h1.mono ?_; rintro e w' ⟨rfl,hb⟩)
  go_ret
  exact ⟨rfl,hb⟩
 | false =>
  have h1:=hW p w (Below.refl _ _)
  rw [hf] at h1
  cases hq : parentV p with
  | none =>
   have hv : roomV l p = 0:=by unfold roomV; rw [hf,hq]; rfl
   rw [hv]
   rw [hq] at hP
   clear hv hf hW hq
   go_enter Tryz.func91,Tryz.ntmps91
   go_upto_region 4 with (go_at_call 92; refine h1.mono ?_; rintro e w1 ⟨rfl,hb⟩)
   go_wp2_with (go_at_call 89; refine (hP _).mono ?_; rintro e w' ⟨rfl,rfl⟩)
   go_ret
   exact ⟨rfl,hb⟩
  | some up =>
   have hv : roomV l p = match findV l up with | none => 72 | some x => if x.f1 = 1 then 0 else 73:=by unfold roomV; rw [hf,hq]; rfl
   rw [hv]
   rw [hq] at hP
   simp only [Option.getD_some,Option.isSome_some] at hP
   have h2:=fun W hb => hW up W hb
   clear hv hf hq
   cases hg : findV l up with
   | none =>
    rw [hg] at h2
    clear hg hW
    go_enter Tryz.func91,Tryz.ntmps91
    go_upto_region 4 with (go_at_call 92; refine h1.mono ?_; rintro e w1 ⟨rfl,hb⟩)
    go_upto_region 7 with (go_at_call 89; refine (hP _).mono ?_; rintro e w' ⟨rfl,rfl⟩)
    go_wp2_with (go_at_call 92; refine (h2 _ hb).mono ?_; rintro e w2 ⟨rfl,hb2⟩)
    go_ret
    exact ⟨rfl,hb.trans (hb2.mono hb.size)⟩
   | some x =>
    rw [hg] at h2
    have hx:=(has_find HS.out up).2 x hg
    have hlo : lowB l up < l.length:=hx.2
    obtain ⟨k,hk⟩ : ∃ k,lowB l up = k:=⟨_,rfl⟩
    rw [hk] at h2 hx hlo
    clear hg hW hk
    have hk0 : (0 : Int) ≤ (k : Int):=by omega
    have hk1 : (k : Int) < (l.length : Int):=by omega
    go_enter Tryz.func91,Tryz.ntmps91
    go_upto_region 4 with (go_at_call 92; refine h1.mono ?_; rintro e w1 ⟨rfl,hb⟩)
    go_upto_region 7 with (go_at_call 89; refine (hP _).mono ?_; rintro e w' ⟨rfl,rfl⟩)
    go_upto_region 10 with (go_at_call 92; refine (h2 _ hb).mono ?_; rintro e w2 ⟨rfl,hb2⟩)
    have hb3:=hb.trans (hb2.mono hb.size)
    obtain ⟨ad,X,y,rfl,rx,c0,c1,c2,c3⟩:=ent_at (Kd.C_below HR.out hb3) k hlo rfl
    rw [hx.1] at c0 c1 c2 c3
    by_cases h11 : x.f1 = 1
    ·have h12 : (x.f1 == 1) = true:=by simp [h11]
     go_wp2
     go_ret
     exact ⟨by simp [h11],hb3⟩
    ·have h12 : (x.f1 == 1) = false:=by simp [h11]
     go_wp2
     go_ret
     exact ⟨by simp [h11],hb3⟩
end Go.Proofs.YthhohbidjhcjeaaGreatDoor.H
namespace Go.Proofs.YthhohbidjhcjeaaGreatDoor.H
open Go.RowKit Go.Shelf Go.Proofs.YthhohbidjhcjeaaGreatDoorW.PrintWords Go.Proofs.YthhohbidjhcjeaaGreatDoorW.PrintLast Go.Proofs.YthhohbidjhcjeaaGreatDoorW.PrintMore
open Go.Proofs.YthhohbidjhcjeaaGreatDoor.Q
set_option linter.unusedVariables false
set_option linter.unusedSimpArgs false
/-- The kinds of things, by the kinds of patches. -/
def kindsL : List Int:=[0,1,1,2,2,3,3,2,2,3,0]
def kindV (k : Int) : Int:=kindsL.getD k.toNat 0
def kindsV : Array Value:=#[.int .i64 0,.int .i64 1,.int .i64 1,.int .i64 2,.int .i64 2,.int .i64 3,.int .i64 3,.int .i64 2,.int .i64 2,.int .i64 3,.int .i64 0]
set_option maxRecDepth 100000 in
theorem kinds_calls (w : World) : Calls Tryz.prog 94 #[] w fun e w' => e = .returned (.agg kindsV) ∧ Below w.heap.size w w':=by
 go_enter Tryz.func94,Tryz.ntmps94
 go_wp2
 refine bodyPost_ret (v:=.agg kindsV) ?_ rfl ⟨rfl,?_⟩
 ·simp [results,Tryz.results94,go_sem,kindsV]
 ·exact (Below.refl _ w).alloc (Nat.le_refl _) _
/-- A patch's thing: 0, or the error. -/
def thereV (l : List S41) (q : ByteArray) (k : Int) : Int:=match findV l q with
 | none => 72
 | some x => if x.f1 = kindV k then 0 else 73
theorem cells7 {W : World} {g : Nat} {v0 v1 v2 v3 v4 v5 v6 : Value} (h : W.heap[g]? = some (.cells #[v0,v1,v2,v3,v4,v5,v6] 25 (0,0))) : W.cell? ⟨g,0,none⟩ = some v0 ∧ W.cell? ⟨g,1,none⟩ = some v1 ∧ W.cell? ⟨g,2,none⟩ = some v2 ∧ W.cell? ⟨g,3,none⟩ = some v3 ∧ W.cell? ⟨g,4,none⟩ = some v4 ∧ W.cell? ⟨g,5,none⟩ = some v5 ∧ W.cell? ⟨g,6,none⟩ = some v6 :=
 ⟨(blk_cell h 0).trans rfl,(blk_cell h 1).trans rfl,(blk_cell h 2).trans rfl,(blk_cell h 3).trans rfl,(blk_cell h 4).trans rfl,(blk_cell h 5).trans rfl,(blk_cell h 6).trans rfl⟩
set_option maxRecDepth 100000 in
theorem kind_row (k : Int) (h0 : 0 ≤ k) (h1 : k ≤ 10) : ∀ W,(Instr.index 86 (.agg kindsV) (.int .i64 k)).run Tryz.prog W = .ok (.int .i64 (kindV k)) W:=by
 intro W
 have h : k = 0 ∨ k = 1 ∨ k = 2 ∨ k = 3 ∨ k = 4 ∨ k = 5 ∨ k = 6 ∨ k = 7 ∨ k = 8 ∨ k = 9 ∨ k = 10:=by omega
 rcases h with rfl | rfl | rfl | rfl | rfl | rfl | rfl | rfl | rfl | rfl | rfl <;> rfl
set_option maxHeartbeats 4000000 in
set_option maxRecDepth 1000000 in
theorem there_at (l : List S41) (A : Option Addr) (c : Nat) (k : Int) (q : ByteArray) (v2 v3 v4 v5 v6 : Value) (w : World) (h2 : v2.oneCell' = true) (h3 : v3.oneCell' = true) (h4 : v4.oneCell' = true) (h5 : v5.oneCell' = true) (h6 : v6.oneCell' = true)
  (hr : Kd.C k41 w A l.length l) (hl : l.length ≤ 1000000000) (hs : Srt l) (hk0 : 0 ≤ k) (hk1 : k ≤ 10) :
  Calls Tryz.prog 95 #[.slice A l.length c,.agg #[.int .i64 k,.string q,v2,v3,v4,v5,v6]] w fun e w' => (∃ i : Nat,e = .returned (.tuple #[.int .i64 i,.int .i64 (thereV l q k)]) ∧ (thereV l q k = 0 → i = lowB l q)) ∧ Below w.heap.size w w':=by
 have hW:=fun W (hb : Below w.heap.size w W) => where_at l A c q W (Kd.C_below hr hb) hl hs
 have HR:=Aside0.mk hr
 have HS:=Aside0.mk hs
 have HB : Aside0 (Below w.heap.size w (w.alloc (.cells #[.int .i64 k,.string q,v2,v3,v4,v5,v6] 25))):=⟨below_alloc (Below.refl _ _) _⟩
 have HX : Aside0 ((w.alloc (.cells #[.int .i64 k,.string q,v2,v3,v4,v5,v6] 25)).heap[w.heap.size]? = some (.cells #[.int .i64 k,.string q,v2,v3,v4,v5,v6] 25 (0,0))):=⟨blk_new _ _⟩
 have h1:=hW _ HB.out
 clear hr hs hl hW
 cases hf : findV l q with
 | none =>
  have hv : thereV l q k = 72:=by unfold thereV; rw [hf]
  rw [hv]
  rw [hf] at h1
  clear hv hf
  go_enter Tryz.func95,Tryz.ntmps95
  go_wp2_with (go_at_call 92; refine h1.mono ?_; rintro e w1 ⟨rfl,hb⟩)
  go_ret2
  exact ⟨⟨0,rfl,fun h => by omega⟩,HB.out.trans (hb.mono HB.out.size)⟩
 | some x =>
  have hx:=(has_find HS.out q).2 x hf
  have hv : thereV l q k = if x.f1 = kindV k then 0 else 73:=by unfold thereV; rw [hf]
  rw [hv]
  rw [hf] at h1
  have hlo : lowB l q < l.length:=hx.2
  obtain ⟨j,hj⟩ : ∃ j,lowB l q = j:=⟨_,rfl⟩
  rw [hj] at h1 hx hlo
  rw [hj]
  have hj0 : (0 : Int) ≤ (j : Int):=by omega
  have hj1 : (j : Int) < (l.length : Int):=by omega
  obtain ⟨t,ht⟩ : ∃ t,kindV k = t:=⟨_,rfl⟩
  have hki:=kind_row k hk0 hk1
  rw [ht] at hki
  rw [ht]
  obtain ⟨r,hr⟩ : ∃ r : Int,(if x.f1 = t then 0 else 73) = r:=⟨_,rfl⟩
  rw [hr]
  replace hr:=Aside0.mk hr
  clear hv hf hj ht
  go_enter Tryz.func95,Tryz.ntmps95
  go_upto_region 4 with (go_at_call 92; refine h1.mono ?_; rintro e w1 ⟨rfl,hb⟩)
  have hB1:=Aside0.mk (HB.out.trans (hb.mono HB.out.size))
  have hX1:=Aside0.mk (blk_below HX.out hb)
  obtain ⟨ad,X,y,rfl,rx,c0,c1,c2,c3⟩:=ent_at (Kd.C_below HR.out hB1.out) j hlo rfl
  rw [hx.1] at c0 c1 c2 c3
  obtain ⟨b0,b1,b2,b3,b4,b5,b6⟩:=cells7 hX1.out
  have hC:=kinds_calls
  clear hb HB HX h1 c0 c2 c3 b1 b2 b3 b4 b5 b6
  by_cases h11 : x.f1 = t
  ·have h12 : (x.f1 == t) = true:=by simp [h11]
   go_wp2
   go_region_held3 (fun W => W.cell? ⟨(ad.add (j * 4)).block,(ad.add (j * 4)).off + 1,none⟩ = some (.int .i64 x.f1) ∧ W.cell? ⟨w.heap.size,0,none⟩ = some (.int .i64 k)) (first | exact ⟨c1,b0⟩ | exact ⟨pw_cell_below hb2 c1,pw_cell_below hb2 b0⟩) ((go_at_call 94; refine (hC _).mono ?_; rintro e w2 ⟨rfl,hb2⟩))
   all_goals
    go_wp2
    go_ret2
    exact ⟨⟨j,by rw [← hr.out,if_pos h11]; rfl,fun _ => rfl⟩,(below_drew hB1.out).trans (hb2.mono hB1.out.size)⟩
  ·have h12 : (x.f1 == t) = false:=by simp [h11]
   go_wp2
   go_region_held3 (fun W => W.cell? ⟨(ad.add (j * 4)).block,(ad.add (j * 4)).off + 1,none⟩ = some (.int .i64 x.f1) ∧ W.cell? ⟨w.heap.size,0,none⟩ = some (.int .i64 k)) (first | exact ⟨c1,b0⟩ | exact ⟨pw_cell_below hb2 c1,pw_cell_below hb2 b0⟩) ((go_at_call 94; refine (hC _).mono ?_; rintro e w2 ⟨rfl,hb2⟩))
   all_goals
    go_wp2
    go_ret2
    exact ⟨⟨0,by rw [← hr.out,if_neg h11]; rfl,fun h => by rw [← hr.out,if_neg h11] at h; omega⟩,(below_drew hB1.out).trans (hb2.mono hB1.out.size)⟩
end Go.Proofs.YthhohbidjhcjeaaGreatDoor.H
namespace Go.Proofs.YthhohbidjhcjeaaGreatDoor.H
open Go.RowKit Go.Shelf Go.Proofs.YthhohbidjhcjeaaGreatDoorW.PrintWords Go.Proofs.YthhohbidjhcjeaaGreatDoorW.PrintLast Go.Proofs.YthhohbidjhcjeaaGreatDoorW.PrintMore
open Go.Proofs.YthhohbidjhcjeaaGreatDoor.Q
set_option linter.unusedVariables false
set_option linter.unusedSimpArgs false
/-- An element of a row: its cells; its lines are known in w. -/
def Rw (w : World) (x : S41) (cs : List Value) : Prop:=∃ (X : Option Addr) (c : Nat),cs = [.string x.f0,.int .i64 x.f1,.slice X x.f2.length c,.string x.f3] ∧ Re w x X c
/-- A row of one's own over elder memory. -/
def Row (w W : World) (v : Value) (xs : List S41) : Prop:=OwnRow (Rw w) 41 4 W w.heap.size v xs
theorem Row.below {w W W' : World} {v : Value} {xs : List S41} (h : Row w W v xs) (hb : Below W.heap.size W W') : Row w W' v xs:=OwnRow.below h hb
theorem Row.slice {w W : World} {v : Value} {xs : List S41} (h : Row w W v xs) : ∃ A c,v = .slice A xs.length c ∧ xs.length ≤ c:=OwnRow.slice_ h
theorem row_nil (w W : World) : Row w W (.slice none 0 0) []:=OwnRow.none_ _ _ _ _ _
theorem row_C {w W : World} {v : Value} {xs : List S41} (h : Row w W v xs) (hb : Below w.heap.size w W) : ∃ A c,v = .slice A xs.length c ∧ xs.length ≤ c ∧ Kd.C k41 W A xs.length xs:=by
 obtain ⟨A,c,rfl,hc,hr⟩:=OwnRow.reads h
 refine ⟨A,c,rfl,hc,ReadsRow.imp_ hr (Below.refl _ _) ?_⟩
 rintro p cl ⟨X,x,rfl,rx⟩
 exact k41_mk W p rx.l (Kd.C_below rx.g hb)
theorem rw_one {x : S41} {X : Option Addr} {c : Nat} : ∀ u ∈ ([.string x.f0,.int .i64 x.f1,.slice X x.f2.length c,.string x.f3] : List Value),u.oneCell' = true:=by
 intro u hu
 simp only [List.mem_cons,List.not_mem_nil,or_false] at hu
 rcases hu with rfl | rfl | rfl | rfl <;> rfl
theorem reps_one {w : World} {ps : List S41} {inner : List Value} (h : Reps (Rw w) 4 ps inner) : ∀ u ∈ inner,u.oneCell' = true:=by
 intro u hu
 obtain ⟨j,hj,rfl⟩:=List.getElem_of_mem hu
 have hl:=h.1
 have hq : j / 4 < ps.length:=by omega
 obtain ⟨X,c,he,rx⟩:=h.2 (j / 4) _ (List.getElem?_eq_getElem hq)
 have hm : inner[j] ∈ (inner.drop (j / 4 * 4)).take 4:=by
  refine List.mem_of_getElem? (i:=j % 4) ?_
  rw [List.getElem?_take_of_lt (by omega),List.getElem?_drop,show j / 4 * 4 + j % 4 = j by omega]
  exact List.getElem?_eq_getElem hj
 rw [he] at hm
 exact rw_one _ hm
theorem rows_rw {w W : World} {A : Option Addr} {n : Nat} {xs : List S41} (h : Kd.C k41 w A n xs) (hb : Below w.heap.size w W) : ReadsRow (Rw w) 4 W A n xs:=by
 refine ReadsRow.imp_ h hb ?_
 intro p c hk
 obtain ⟨X,x,rfl,l,g⟩:=k41_open hk
 exact ⟨X,x,rfl,⟨l,g⟩⟩
set_option maxHeartbeats 4000000 in
set_option maxRecDepth 100000 in
theorem clone_at (w : World) (l : List S41) (A : Option Addr) (c : Nat) (W : World) (hB : Below w.heap.size w W) (hn : l.length ≤ 1000000000) (h : ReadsRow (Rw w) 4 W A l.length l) :
  Calls Tryz.prog 73 #[.slice A l.length c] W fun e W' => ∃ v,e = .returned v ∧ Row w W' v l ∧ Below w.heap.size w W' ∧ (∀ g,v.ownBlock = some g → W.heap.size ≤ g):=by
 have q22 : ∀ (w : World) (a : Option Addr) (n c n' c' : Nat),(binOp .eql 22 (.slice a n c) (.slice none n' c')).run Tryz.prog w = .ok (.bool a.isNone) w:=fun w a n c n' c' => Go.Lib.run_eql_slice_nil w _ _ a n c n' c' Tryz.underlying22
 cases A with
 | none =>
  have hl : Aside0 (l = []):=⟨List.eq_nil_of_length_eq_zero (by
   rcases Nat.eq_zero_or_pos l.length with h0 | h0
   ·exact h0
   ·obtain ⟨ad,he,_⟩:=h.2.2 h0
    cases he)⟩
  have hB':=Aside0.mk hB
  clear h hB
  go_enter Tryz.func73,Tryz.ntmps73
  go_wp2
  go_ret
  exact ⟨_,rfl,by rw [hl.out]; exact row_nil _ _,hB'.out,by intro g hg; simp [Value.ownBlock] at hg⟩
 | some ad =>
  obtain ⟨inner,hr,hc⟩:=h.inner_
  have hr':=Aside0.mk hr
  have hc':=Aside0.mk hc
  have h1:=Aside0.mk (reps_one hr)
  have hB':=Aside0.mk hB
  have hsz:=Aside0.mk hB.size
  have hn1 : Aside0 (0 + l.length ≤ maxLen):=⟨by unfold maxLen; omega⟩
  have hn2 : Aside0 ((0 + l.length) * 64 ≤ 140737488355328):=⟨by rw [Nat.zero_add]; exact Nat.le_trans (Nat.mul_le_mul_right 64 hn) (by decide)⟩
  have hl:=Aside0.mk hr.1
  clear h hr hc hB hn
  obtain ⟨i0,hi,hz0,hz1,hz2⟩:=info_parts info41
  have hi':=Aside0.mk hi
  have hz0':=Aside0.mk hz0
  have hz1':=Aside0.mk hz1
  have hz2':=Aside0.mk hz2
  clear hi hz0 hz1 hz2
  go_enter Tryz.func73,Tryz.ntmps73
  go_wp2_with (at_builtin; refine wpList_append_own_at _ rfl _ _ 22 rfl w.heap.size 41 i0 _ 4 64 Tryz.underlying22 hi'.out hz0'.out hz1'.out hz2'.out rfl (by omega) _ _ _ rfl (World.ownsRow_made W #[] 0 hsz.out (Nat.zero_le _) (by simp)) ad l.length c inner rfl hl.out ?qc2 h1.out hn1.out hn2.out ?qc6 ?_)
  case qc2 =>
   intro j u hj
   exact Lib.cell?_alloc_some _ (hc'.out j u hj)
  case qc6 => have:=hsz.out; simp; omega
  intro v' w1 hown hgrow hnil hblk
  go_wp2
  go_ret
  refine ⟨v',rfl,⟨inner,by simpa using hown,hr'.out⟩,?_,?_⟩
  ·exact (below_alloc hB'.out _).grown hgrow (by have:=hsz.out; simp; omega) (by intro k hk; simp [Value.ownBlock] at hk; have:=hsz.out; omega)
  ·intro g hg
   rcases hblk with hk | hk
   ·rw [hk] at hg; simp [Value.ownBlock] at hg; omega
   ·rw [hk] at hg; simp at hg; omega
end Go.Proofs.YthhohbidjhcjeaaGreatDoor.H
namespace Go.Proofs.YthhohbidjhcjeaaGreatDoor.H
open Go.RowKit Go.Shelf Go.Proofs.YthhohbidjhcjeaaGreatDoorW.PrintWords Go.Proofs.YthhohbidjhcjeaaGreatDoorW.PrintLast Go.Proofs.YthhohbidjhcjeaaGreatDoorW.PrintMore
open Go.Proofs.YthhohbidjhcjeaaGreatDoor.Q Go.Proofs.YthhohbidjhcjeaaGreatDoor.Pl
set_option linter.unusedVariables false
set_option linter.unusedSimpArgs false
theorem within_calls (a b : ByteArray) (w : World) : Calls Tryz.prog 98 #[.string a,.string b] w fun e w' => e = .returned (.bool (withinB a b)) ∧ Below w.heap.size w w' :=
 (path_Within.calls a b _ w (within_f a b)).mono (fun e w' ⟨he,n,hw⟩ => ⟨he,by rw [hw]; exact pw_below_drewN (Below.refl _ _) n⟩)
/-- Does a path lie inside another one, and is not it? -/
def insideB (x q : ByteArray) : Bool:=if x = q then false else withinB x q
theorem inside_calls (x q : ByteArray) (x1 x2 x3 : Value) (g : Nat) (v0 v2 v3 v4 v5 v6 : Value) (h1 : x1.oneCell' = true) (h2 : x2.oneCell' = true) (h3 : x3.oneCell' = true) (W : World)
  (hx : W.heap[g]? = some (.cells #[v0,.string q,v2,v3,v4,v5,v6] 25 (0,0))) :
  Calls Tryz.prog 97 #[.agg #[.string x,x1,x2,x3],.pointer (some ⟨g,0,none⟩)] W fun e W' => e = .returned (.bool (insideB x q)) ∧ Below W.heap.size W W':=by
 have hB : Aside0 (Below W.heap.size W (W.alloc (.cells #[.string x,x1,x2,x3] 41))):=⟨below_alloc (Below.refl _ _) _⟩
 obtain ⟨-,b1,-,-,-,-,-⟩:=cells7 (blk_below hx hB.out)
 have hC:=fun W => within_calls x q W
 clear hx
 by_cases he : x = q
 ·subst he
  have hv : insideB x x = false:=by unfold insideB; rw [if_pos rfl]
  rw [hv]
  clear hv
  go_enter Tryz.func97,Tryz.ntmps97
  go_wp2
  go_ret
  exact ⟨rfl,hB.out⟩
 ·have hv : insideB x q = withinB x q:=by unfold insideB; rw [if_neg he]
  rw [hv]
  obtain ⟨r,hr⟩ : ∃ r,withinB x q = r:=⟨_,rfl⟩
  rw [hr] at hC
  rw [hr]
  have hne : (x.toList != q.toList) = true:=by
   rw [bne_iff_ne]
   exact fun h => he (toList_inj h)
  have hne2 : (x.toList == q.toList) = false:=by
   rw [beq_eq_false_iff_ne]
   exact fun h => he (toList_inj h)
  clear hv hr
  go_enter Tryz.func97,Tryz.ntmps97
  go_wp2_with (go_at_call 98; refine (hC _).mono ?_; rintro e w' ⟨rfl,hb⟩)
  go_ret
  exact ⟨rfl,hB.out.trans (hb.mono hB.out.size)⟩
theorem getD_get {l : List S41} {i : Nat} (h : i < l.length) : l.getD i z41 = l[i]:=by simp [List.getD,List.getElem?_eq_getElem h]
theorem any_take_succ (f : S41 → Bool) (l : List S41) (j : Nat) (h : j < l.length) : (l.take (j + 1)).any f = ((l.take j).any f || f (l.getD j z41)):=by
 rw [List.take_add_one,List.any_append,List.getElem?_eq_getElem h,getD_get h]
 simp
set_option maxHeartbeats 4000000 in
set_option maxRecDepth 1000000 in
theorem index_at (l : List S41) (A : Option Addr) (c : Nat) (q : ByteArray) (g : Nat) (v0 v2 v3 v4 v5 v6 : Value) (w : World) (hr : Kd.C k41 w A l.length l) (hl : l.length ≤ 1000000000)
  (hx : w.heap[g]? = some (.cells #[v0,.string q,v2,v3,v4,v5,v6] 25 (0,0))) :
  Calls Tryz.prog 133 #[.slice A l.length c,.func (.func 97) #[] #[.pointer (some ⟨g,0,none⟩)]] w fun e w' => (∃ i : Int,e = .returned (.int .i64 i) ∧ decide (0 ≤ i) = l.any (fun x => insideB x.f0 q)) ∧ Below w.heap.size w w':=by
 have eg : ∀ args w,(callFunc 97 args).run Tryz.prog w = .ok (.enter 97 args) w:=enters_of Tryz.func97 (by kernel_rfl) rfl
 have HR:=Aside0.mk hr
 have HX:=Aside0.mk hx
 have HL:=Aside0.mk hl
 have B0:=Aside0.mk (Below.refl w.heap.size w)
 clear hr hx
 obtain ⟨f,hf⟩ : ∃ f : S41 → Bool,f = fun x => insideB x.f0 q:=⟨_,rfl⟩
 rw [← hf]
 replace hf:=Aside0.mk hf
 go_enter Tryz.func133,Tryz.ntmps133
 go_wp2
 go_loopg [8] l.length (fun kx s8 wr => ∃ j : Nat,s8 = .int .i64 j ∧ j + kx = l.length ∧ Aside0 (Below w.heap.size w wr) ∧ Aside0 ((l.take j).any f = false))
 case atStart => exact ⟨0,rfl,by omega,B0,⟨by simp⟩⟩
 case round =>
  clear B0
  obtain ⟨j,rfl,hj,B1,hn⟩:=hrel
  by_cases hlt : j < l.length
  ·obtain ⟨ad,X,x,rfl,rx,c0,c1,c2,c3⟩:=ent_at (Kd.C_below HR.out B1.out) j hlt rfl
   have hs:=any_take_succ f l j hlt
   rw [hn.out,Bool.false_or] at hs
   have hfx : f (l.getD j z41) = insideB (l.getD j z41).f0 q:=by rw [hf.out]
   generalize hy : l.getD j z41 = y at rx c0 c1 c2 c3 hs hfx
   have hc:=inside_calls y.f0 q (.int .i64 y.f1) (.slice X y.f2.length x) (.string y.f3) g v0 v2 v3 v4 v5 v6 rfl rfl rfl wr ((B1.out.block g (blk_lt HX.out)).trans HX.out)
   have RX:=Aside0.mk rx
   have hj0 : (0 : Int) ≤ (j : Int):=by omega
   have hj1 : (j : Int) < (l.length : Int):=by omega
   replace hs:=Aside0.mk hs
   clear rx hy
   rw [← hfx] at hc
   obtain ⟨r,hfr⟩ : ∃ r,f y = r:=⟨_,rfl⟩
   rw [hfr] at hc
   replace hfr:=Aside0.mk hfr
   clear hfx
   cases r with
   | true =>
    go_wp2_with (go_at_fn 97; refine hc.mono ?_; rintro e w' ⟨rfl,hb⟩)
    go_ret
    exact ⟨⟨j,rfl,by
     have h1 : l.any f = true:=by
      rw [← List.take_append_drop (j + 1) l,List.any_append,hs.out,hfr.out]; rfl
     rw [h1]; simp⟩,B1.out.trans (hb.mono B1.out.size)⟩
   | false =>
    have hwr : IntKind.i64.wrap ((j : Int) + 1) = (((j + 1 : Nat)) : Int):=by rw [show ((j : Int) + 1) = ((j + 1 : Nat) : Int) by omega]; exact wrap_small _ (by omega) (by have:=HL.out; omega)
    go_wp2_with (go_at_fn 97; refine hc.mono ?_; rintro e w' ⟨rfl,hb⟩)
    go_roundg (l.length - (j + 1))
    case measure => omega
    case rel => exact ⟨j + 1,by first | rfl | (rw [hwr]),by omega,⟨B1.out.trans (hb.mono B1.out.size)⟩,⟨by rw [hs.out,hfr.out]⟩⟩
  ·have hje : j = l.length:=by omega
   have hnb : decide ((j : Int) < (l.length : Int)) = false:=decide_eq_false (by omega)
   have h1 : l.any f = false:=by rw [← hn.out,List.take_of_length_le (by omega)]
   go_wp2
   go_ret
   exact ⟨⟨-1,rfl,by rw [h1]; rfl⟩,B1.out⟩
theorem contains_at (l : List S41) (A : Option Addr) (c : Nat) (q : ByteArray) (g : Nat) (v0 v2 v3 v4 v5 v6 : Value) (w : World) (hr : Kd.C k41 w A l.length l) (hl : l.length ≤ 1000000000)
  (hx : w.heap[g]? = some (.cells #[v0,.string q,v2,v3,v4,v5,v6] 25 (0,0))) :
  Calls Tryz.prog 96 #[.slice A l.length c,.func (.func 97) #[] #[.pointer (some ⟨g,0,none⟩)]] w fun e w' => e = .returned (.bool (l.any (fun x => insideB x.f0 q))) ∧ Below w.heap.size w w':=by
 have hC:=index_at l A c q g v0 v2 v3 v4 v5 v6 w hr hl hx
 obtain ⟨r,hrr⟩ : ∃ r,l.any (fun x => insideB x.f0 q) = r:=⟨_,rfl⟩
 rw [hrr] at hC ⊢
 clear hr hl hx hrr
 go_enter Tryz.func96,Tryz.ntmps96
 go_wp2_with (go_at_call 133; refine hC.mono ?_; rintro e w' ⟨⟨i,rfl,hi⟩,hb⟩)
 go_ret
 exact ⟨by first | rfl | (rw [← hi]) | (simp [← hi]),hb⟩
end Go.Proofs.YthhohbidjhcjeaaGreatDoor.H
namespace Go.Proofs.YthhohbidjhcjeaaGreatDoor.Q
open Go.RowKit Go.Proofs.YthhohbidjhcjeaaGreatDoorW.PrintWords Go.Proofs.YthhohbidjhcjeaaGreatDoorW.PrintLast Go.Proofs.YthhohbidjhcjeaaGreatDoorW.PrintMore
attribute [local go_sem] max2_int min2_int max_two min_two max_three min_three max_four min_four   -- for this text's walks alone
set_option linter.unusedVariables false
set_option linter.unusedSimpArgs false

/-! ### bytealg_LastIndexByteString: function 157 -/
def bytealg_LastIndexByteString.l0 : Nat → ByteArray → Int → Int → Option (Int)
 | 0,_,_,_ => none
 | k + 1,x0,x1,x5 => if x5 ≥ 0 then (if 0 ≤ x5 then (if x5 < (x0.size : Int) then (if (bt x0 x5) = x1 then (some x5) else (bytealg_LastIndexByteString.l0 k x0 x1 (wrap64 (x5 - 1)))) else (none)) else (none)) else (some (-1))
def bytealg_LastIndexByteString.f (k : Nat) (a0 : ByteArray) (a1 : Int) : Option (Int):=bytealg_LastIndexByteString.l0 k a0 a1 (wrap64 ((a0.size : Int) - 1))
theorem bytealg_LastIndexByteString.mono_l : ∀ k,(∀ y0 y1 y2,LeO (bytealg_LastIndexByteString.l0 k y0 y1 y2) (bytealg_LastIndexByteString.l0 (k + 1) y0 y1 y2))
 | 0 => fun _ _ _ r h => by simp [bytealg_LastIndexByteString.l0] at h
 | k + 1 => by
  have ih0:=bytealg_LastIndexByteString.mono_l k
  ·intro y0 y1 y2
   unfold bytealg_LastIndexByteString.l0
   repeat' first
   | (with_reducible exact ih0 _ _ _)
   | (with_reducible exact LeO.refl _)
   | (with_reducible exact LeO.none _)
   | (with_reducible refine LeO.ite ?_ ?_)
   | (with_reducible refine LeO.bind ?_ (fun _ => ?_))
   | exact ih0 _ _ _
   | exact LeO.none _
   | refine LeO.ite ?_ ?_
   | refine LeO.bind ?_ (fun _ => ?_)
theorem bytealg_LastIndexByteString.mono : ∀ a0 a1 k,LeO (bytealg_LastIndexByteString.f k a0 a1) (bytealg_LastIndexByteString.f (k + 1) a0 a1):=by
 intro a0 a1 k
 have ih0:=bytealg_LastIndexByteString.mono_l k
 unfold bytealg_LastIndexByteString.f
 repeat' first
   | (with_reducible exact ih0 _ _ _)
   | (with_reducible exact LeO.refl _)
   | (with_reducible exact LeO.none _)
   | (with_reducible refine LeO.ite ?_ ?_)
   | (with_reducible refine LeO.bind ?_ (fun _ => ?_))
   | exact ih0 _ _ _
   | exact LeO.none _
   | refine LeO.ite ?_ ?_
   | refine LeO.bind ?_ (fun _ => ?_)
set_option maxHeartbeats 8000000 in
set_option maxRecDepth 100000 in
theorem bytealg_LastIndexByteString.calls (k : Nat) (a0 : ByteArray) (a1 : Int) (r : Int) (w : World) (h : bytealg_LastIndexByteString.f k a0 a1 = some r) :
  Calls Tryz.prog 157 #[.string a0,.int .u8 a1] w fun e w' => e = .returned (.int .i64 r) ∧ Drawn0 w w':=by
 have H : (bytealg_LastIndexByteString.l0 k a0 a1 (wrap64 ((a0.size : Int) - 1))) = some r:=h
 clear h
 have H':=Aside0.mk H
 clear H
 go_enter Tryz.func157,Tryz.ntmps157
 go_wp2
 go_loopg [5] k (fun kq v5 w' => ∃ (x5_1 : Int),v5 = .int .i64 x5_1 ∧ Aside0 (bytealg_LastIndexByteString.l0 kq a0 a1 x5_1 = some r) ∧ Aside0 (kq ≤ k) ∧ Drawn0 w w')
 case atStart => exact ⟨(wrap64 ((a0.size : Int) - 1)),(by first | rfl | (simp; done) | (simp [*]; done)),H',⟨Nat.le_refl _⟩,by repeat (first | exact Drawn0.refl _ | apply Drawn0.step)⟩
 case round =>
  clear H'
  try clear c1
  try clear p2
  obtain ⟨x5_1,rfl,HA,HK1,⟨m1,rfl⟩⟩:=hrel
  cases gk with
  | zero => exact absurd HA.out (by simp [bytealg_LastIndexByteString.l0])
  | succ k1 =>
   have H:=HA.out
   clear HA
   simp only [bytealg_LastIndexByteString.l0] at H
   by_cases c3 : x5_1 ≥ 0
   ·rw [if_pos c3] at H
    have c3b0 : decide (0 ≤ x5_1) = true:=decide_eq_true c3
    clear c3
    by_cases c4 : 0 ≤ x5_1
    ·rw [if_pos c4] at H
     have c4b0 : decide (0 ≤ x5_1) = true:=decide_eq_true c4
     clear c4
     by_cases c5 : x5_1 < (a0.size : Int)
     ·rw [if_pos c5] at H
      have c5b0 : decide (x5_1 < (a0.size : Int)) = true:=decide_eq_true c5
      clear c5
      by_cases c7 : (bt a0 x5_1) = a1
      ·rw [if_pos c7] at H
       have c7b0 : ((bt a0 x5_1) == a1) = true:=beq_iff_eq.mpr c7
       have c7b1 : ((bt a0 x5_1) != a1) = false:=bne_eq_false_iff_eq.mpr c7
       clear c7
       obtain rfl:=Option.some.inj H
       have p6 : 0 ≤ (x5_1 : Int):=of_decide_eq_true (by first | (with_reducible assumption) | assumption)
       have q6 : x5_1 < (a0.size : Int):=of_decide_eq_true (by first | (with_reducible assumption) | assumption)
       have hx6:=bt_at a0 x5_1
       replace p6:=eq_true p6
       replace q6:=eq_true q6
       go_wp2
       go_ret
       exact ⟨by first | rfl | (simp; done) | (simp [*]; done) | (simp [show ∀ l : List UInt8,(l != []) = !l.isEmpty from fun l => by cases l <;> rfl]; done),by repeat (first | exact Drawn0.refl _ | apply Drawn0.step)⟩
      ·rw [if_neg c7] at H
       have c7b0 : ((bt a0 x5_1) == a1) = false:=beq_eq_false_iff_ne.mpr c7
       have c7b1 : ((bt a0 x5_1) != a1) = true:=bne_iff_ne.mpr c7
       have H':=Aside0.mk H
       clear H
       have p6 : 0 ≤ (x5_1 : Int):=of_decide_eq_true (by first | (with_reducible assumption) | assumption)
       have q6 : x5_1 < (a0.size : Int):=of_decide_eq_true (by first | (with_reducible assumption) | assumption)
       have hx6:=bt_at a0 x5_1
       replace p6:=eq_true p6
       replace q6:=eq_true q6
       go_wp2
       go_roundg k1
       case measure => have:=HK1.out; omega
       case rel => exact ⟨(wrap64 (x5_1 - 1)),(by first | rfl | (simp; done) | (simp [*]; done)),H',⟨by have:=HK1.out; omega⟩,by repeat (first | exact Drawn0.refl _ | apply Drawn0.step)⟩
     ·rw [if_neg c5] at H
      exact absurd H (by simp)
    ·rw [if_neg c4] at H
     exact absurd H (by simp)
   ·rw [if_neg c3] at H
    have c3b0 : decide (0 ≤ x5_1) = false:=decide_eq_false c3
    clear c3
    obtain rfl:=Option.some.inj H
    go_wp2
    go_ret
    exact ⟨by first | rfl | (simp; done) | (simp [*]; done) | (simp [show ∀ l : List UInt8,(l != []) = !l.isEmpty from fun l => by cases l <;> rfl]; done),by repeat (first | exact Drawn0.refl _ | apply Drawn0.step)⟩

/-! ### strings_LastIndexByte: function 129 -/
def strings_LastIndexByte.f (k : Nat) (a0 : ByteArray) (a1 : Int) : Option (Int):=(bytealg_LastIndexByteString.f k a0 a1).bind fun t117 => (some t117)
theorem strings_LastIndexByte.mono : ∀ a0 a1 k,LeO (strings_LastIndexByte.f k a0 a1) (strings_LastIndexByte.f (k + 1) a0 a1):=by
 intro a0 a1 k
 unfold strings_LastIndexByte.f
 repeat' first
   | (with_reducible exact bytealg_LastIndexByteString.mono _ _ _)
   | (with_reducible exact LeO.refl _)
   | (with_reducible exact LeO.none _)
   | (with_reducible refine LeO.ite ?_ ?_)
   | (with_reducible refine LeO.bind ?_ (fun _ => ?_))
   | exact bytealg_LastIndexByteString.mono _ _ _
   | exact LeO.none _
   | refine LeO.ite ?_ ?_
   | refine LeO.bind ?_ (fun _ => ?_)
set_option maxHeartbeats 8000000 in
set_option maxRecDepth 100000 in
theorem strings_LastIndexByte.calls (k : Nat) (a0 : ByteArray) (a1 : Int) (r : Int) (w : World) (h : strings_LastIndexByte.f k a0 a1 = some r) :
  Calls Tryz.prog 129 #[.string a0,.int .u8 a1] w fun e w' => e = .returned (.int .i64 r) ∧ Drawn0 w w':=by
 have H : ((bytealg_LastIndexByteString.f k a0 a1).bind fun t117 => (some t117)) = some r:=h
 clear h
 replace H:=Option.bind_eq_some_iff.mp H
 obtain ⟨t117,A30,H⟩:=H
 replace H : (some t117) = some r:=H
 have A3:=Aside0.mk A30
 clear A30
 obtain rfl:=Option.some.inj H
 go_enter Tryz.func129,Tryz.ntmps129
 go_wp2_with (first | ((with_reducible refine gate_callee (f:=157) rfl ?_); refine goesL_ (some 7) rfl rfl Tryz.func157 (by kernel_rfl) rfl #[.string a0,.int .u8 a1] rfl (by (try simp only [List.map_toArray,List.map_cons,List.map_nil]); first | done | rfl | (simp only [List.length_drop,List.length_take]; rfl)) ?_; (with_reducible refine (bytealg_LastIndexByteString.calls k a0 a1 t117 _ A3.out).mono ?_); rintro e w' ⟨rfl,⟨nd,rfl⟩⟩; refine ⟨_,rfl,?_⟩))
 go_ret
 exact ⟨by first | rfl | (simp; done) | (simp [*]; done) | (simp [show ∀ l : List UInt8,(l != []) = !l.isEmpty from fun l => by cases l <;> rfl]; done),by repeat (first | exact Drawn0.refl _ | apply Drawn0.step)⟩

/-! ### path_Parent: function 89 -/
def path_Parent.f (k : Nat) (a0 : ByteArray) : Option (ByteArray × Bool):=(strings_LastIndexByte.f k a0 47).bind fun t118 => (if t118 < 0 then (some ((⟨#[]⟩ : ByteArray),false)) else (if 0 ≤ t118 then (if t118 ≤ (a0.size : Int) then (some (a0.extract 0 (t118 : Int).toNat,true)) else (none)) else (none)))
theorem path_Parent.mono : ∀ a0 k,LeO (path_Parent.f k a0) (path_Parent.f (k + 1) a0):=by
 intro a0 k
 unfold path_Parent.f
 repeat' first
   | (with_reducible exact strings_LastIndexByte.mono _ _ _)
   | (with_reducible exact LeO.refl _)
   | (with_reducible exact LeO.none _)
   | (with_reducible refine LeO.ite ?_ ?_)
   | (with_reducible refine LeO.bind ?_ (fun _ => ?_))
   | exact strings_LastIndexByte.mono _ _ _
   | exact LeO.none _
   | refine LeO.ite ?_ ?_
   | refine LeO.bind ?_ (fun _ => ?_)
set_option maxHeartbeats 8000000 in
set_option maxRecDepth 100000 in
theorem path_Parent.calls (k : Nat) (a0 : ByteArray) (r1 : ByteArray) (r2 : Bool) (w : World) (h : path_Parent.f k a0 = some (r1,r2)) :
  Calls Tryz.prog 89 #[.string a0] w fun e w' => e = .returned (.tuple #[.string r1,.bool r2]) ∧ Drawn0 w w':=by
 have H : ((strings_LastIndexByte.f k a0 47).bind fun t118 => (if t118 < 0 then (some ((⟨#[]⟩ : ByteArray),false)) else (if 0 ≤ t118 then (if t118 ≤ (a0.size : Int) then (some (a0.extract 0 (t118 : Int).toNat,true)) else (none)) else (none)))) = some (r1,r2):=h
 clear h
 replace H:=Option.bind_eq_some_iff.mp H
 obtain ⟨t118,A20,H⟩:=H
 replace H : (if t118 < 0 then (some ((⟨#[]⟩ : ByteArray),false)) else (if 0 ≤ t118 then (if t118 ≤ (a0.size : Int) then (some (a0.extract 0 (t118 : Int).toNat,true)) else (none)) else (none))) = some (r1,r2):=H
 have A2:=Aside0.mk A20
 clear A20
 by_cases c3 : t118 < 0
 ·rw [if_pos c3] at H
  have c3b0 : decide (t118 < 0) = true:=decide_eq_true c3
  clear c3
  simp only [Option.some.injEq,Prod.mk.injEq] at H
  obtain ⟨rfl,rfl⟩:=H
  go_enter Tryz.func89,Tryz.ntmps89
  go_wp2_with (first | ((with_reducible refine gate_callee (f:=129) rfl ?_); refine goesL_ (some 6) rfl rfl Tryz.func129 (by kernel_rfl) rfl #[.string a0,.int .u8 47] rfl (by (try simp only [List.map_toArray,List.map_cons,List.map_nil]); first | done | rfl | (simp only [List.length_drop,List.length_take]; rfl)) ?_; (with_reducible refine (strings_LastIndexByte.calls k a0 47 t118 _ A2.out).mono ?_); rintro e w' ⟨rfl,⟨nd,rfl⟩⟩; refine ⟨_,rfl,?_⟩))
  go_ret2
  exact ⟨by first | rfl | (simp; done) | (simp [*]; done) | (simp [show ∀ l : List UInt8,(l != []) = !l.isEmpty from fun l => by cases l <;> rfl]; done),by repeat (first | exact Drawn0.refl _ | apply Drawn0.step)⟩
 ·rw [if_neg c3] at H
  have c3b0 : decide (t118 < 0) = false:=decide_eq_false c3
  clear c3
  by_cases c4 : 0 ≤ t118
  ·rw [if_pos c4] at H
   have c4b0:=eq_true c4
   have c4b1 : decide (0 ≤ t118) = true:=decide_eq_true c4
   clear c4
   by_cases c5 : t118 ≤ (a0.size : Int)
   ·rw [if_pos c5] at H
    have c5b0:=eq_true c5
    have c5b1 : decide (t118 ≤ (a0.size : Int)) = true:=decide_eq_true c5
    clear c5
    simp only [Option.some.injEq,Prod.mk.injEq] at H
    obtain ⟨rfl,rfl⟩:=H
    go_enter Tryz.func89,Tryz.ntmps89
    go_wp2_with (first | ((with_reducible refine gate_callee (f:=129) rfl ?_); refine goesL_ (some 6) rfl rfl Tryz.func129 (by kernel_rfl) rfl #[.string a0,.int .u8 47] rfl (by (try simp only [List.map_toArray,List.map_cons,List.map_nil]); first | done | rfl | (simp only [List.length_drop,List.length_take]; rfl)) ?_; (with_reducible refine (strings_LastIndexByte.calls k a0 47 t118 _ A2.out).mono ?_); rintro e w' ⟨rfl,⟨nd,rfl⟩⟩; refine ⟨_,rfl,?_⟩))
    go_ret2
    exact ⟨by first | rfl | (simp; done) | (simp [*]; done) | (simp [show ∀ l : List UInt8,(l != []) = !l.isEmpty from fun l => by cases l <;> rfl]; done),by repeat (first | exact Drawn0.refl _ | apply Drawn0.step)⟩
   ·rw [if_neg c5] at H
    exact absurd H (by simp)
  ·rw [if_neg c4] at H
   exact absurd H (by simp)

/-! ### tree_thing: function 90 -/
mutual
def tree_thing.j0 : Nat → Bool → ByteArray → Int → List ByteArray → ByteArray → Option (Bool)
 | 0,_,_,_,_,_ => none
 | k + 1,x3,x120000,x120001,x120002,x120003 => if x3 = true then (some false) else (if x120001 = 2 then (tree_thing.j1 k false x120000 x120001 x120002 x120003) else (tree_thing.j1 k (decide ((x120002.length : Int) > 0)) x120000 x120001 x120002 x120003))
def tree_thing.j1 : Nat → Bool → ByteArray → Int → List ByteArray → ByteArray → Option (Bool)
 | 0,_,_,_,_,_ => none
 | k + 1,x18,x120000,x120001,x120002,x120003 => if x18 = true then (some false) else (if x120001 = 3 then (some true) else (if x120003.toList = ([] : List UInt8) then (some true) else (some false)))
end
def tree_thing.f (k : Nat) (a0_0 : ByteArray) (a0_1 : Int) (l0_2 : List ByteArray) (a0_3 : ByteArray) : Option (Bool):=(path_Right.f a0_0).bind fun t120 => (if t120 = true then (if a0_1 < 1 then (tree_thing.j0 k (decide (a0_1 < 1)) a0_0 a0_1 l0_2 a0_3) else (if a0_1 > 3 then (tree_thing.j0 k (decide (a0_1 > 3)) a0_0 a0_1 l0_2 a0_3) else ((lines_Right.f l0_2).bind fun t121 => (tree_thing.j0 k (!t121) a0_0 a0_1 l0_2 a0_3)))) else (tree_thing.j0 k (!t120) a0_0 a0_1 l0_2 a0_3))
theorem tree_thing.mono_l : ∀ k,(∀ y0 y1 y2 y3 y4,LeO (tree_thing.j0 k y0 y1 y2 y3 y4) (tree_thing.j0 (k + 1) y0 y1 y2 y3 y4)) ∧ (∀ y0 y1 y2 y3 y4,LeO (tree_thing.j1 k y0 y1 y2 y3 y4) (tree_thing.j1 (k + 1) y0 y1 y2 y3 y4))
 | 0 => ⟨fun _ _ _ _ _ r h => by simp [tree_thing.j0] at h,fun _ _ _ _ _ r h => by simp [tree_thing.j1] at h⟩
 | k + 1 => by
  obtain ⟨ih0,ih1⟩:=tree_thing.mono_l k
  refine ⟨?_,?_⟩
  ·intro y0 y1 y2 y3 y4
   unfold tree_thing.j0
   repeat' first
   | (with_reducible exact ih0 _ _ _ _ _)
   | (with_reducible exact ih1 _ _ _ _ _)
   | (with_reducible exact LeO.refl _)
   | (with_reducible exact LeO.none _)
   | (with_reducible refine LeO.ite ?_ ?_)
   | (with_reducible refine LeO.bind ?_ (fun _ => ?_))
   | exact ih0 _ _ _ _ _
   | exact ih1 _ _ _ _ _
   | exact LeO.none _
   | refine LeO.ite ?_ ?_
   | refine LeO.bind ?_ (fun _ => ?_)
  ·intro y0 y1 y2 y3 y4
   unfold tree_thing.j1
   repeat' first
   | (with_reducible exact ih0 _ _ _ _ _)
   | (with_reducible exact ih1 _ _ _ _ _)
   | (with_reducible exact LeO.refl _)
   | (with_reducible exact LeO.none _)
   | (with_reducible refine LeO.ite ?_ ?_)
   | (with_reducible refine LeO.bind ?_ (fun _ => ?_))
   | exact ih0 _ _ _ _ _
   | exact ih1 _ _ _ _ _
   | exact LeO.none _
   | refine LeO.ite ?_ ?_
   | refine LeO.bind ?_ (fun _ => ?_)
theorem tree_thing.mono : ∀ a0 a1 a2 a3 k,LeO (tree_thing.f k a0 a1 a2 a3) (tree_thing.f (k + 1) a0 a1 a2 a3):=by
 intro a0 a1 a2 a3 k
 obtain ⟨ih0,ih1⟩:=tree_thing.mono_l k
 unfold tree_thing.f
 repeat' first
   | (with_reducible exact ih0 _ _ _ _ _)
   | (with_reducible exact ih1 _ _ _ _ _)
   | (with_reducible exact LeO.refl _)
   | (with_reducible exact LeO.none _)
   | (with_reducible refine LeO.ite ?_ ?_)
   | (with_reducible refine LeO.bind ?_ (fun _ => ?_))
   | exact ih0 _ _ _ _ _
   | exact ih1 _ _ _ _ _
   | exact LeO.none _
   | refine LeO.ite ?_ ?_
   | refine LeO.bind ?_ (fun _ => ?_)
set_option maxHeartbeats 8000000 in
set_option maxRecDepth 100000 in
theorem tree_thing.calls (k : Nat) (a0_0 : ByteArray) (a0_1 : Int) (A0_2 : Option Addr) (c0_2 : Nat) (l0_2 : List ByteArray) (a0_3 : ByteArray) (r : Bool) (w : World) (hr0_2 : Kd.C Kd.string w A0_2 l0_2.length l0_2) (hc0_2 : l0_2.length ≤ c0_2) (h : tree_thing.f k a0_0 a0_1 l0_2 a0_3 = some r) :
  Calls Tryz.prog 90 #[.agg #[.string a0_0,.int .i64 a0_1,.slice A0_2 l0_2.length c0_2,.string a0_3]] w fun e w' => e = .returned (.bool r) ∧ Below w.heap.size w w':=by
 have hu41:=Tryz.underlying41
 have HR0_2:=Aside0.mk hr0_2
 have HC0_2:=Aside0.mk hc0_2
 clear hr0_2 hc0_2
 have HB:=Aside0.mk (Below.refl w.heap.size w)
 have H : ((path_Right.f a0_0).bind fun t120 => (if t120 = true then (if a0_1 < 1 then (tree_thing.j0 k (decide (a0_1 < 1)) a0_0 a0_1 l0_2 a0_3) else (if a0_1 > 3 then (tree_thing.j0 k (decide (a0_1 > 3)) a0_0 a0_1 l0_2 a0_3) else ((lines_Right.f l0_2).bind fun t121 => (tree_thing.j0 k (!t121) a0_0 a0_1 l0_2 a0_3)))) else (tree_thing.j0 k (!t120) a0_0 a0_1 l0_2 a0_3))) = some r:=h
 clear h
 replace H:=Option.bind_eq_some_iff.mp H
 obtain ⟨t120,A20,H⟩:=H
 replace H : (if t120 = true then (if a0_1 < 1 then (tree_thing.j0 k (decide (a0_1 < 1)) a0_0 a0_1 l0_2 a0_3) else (if a0_1 > 3 then (tree_thing.j0 k (decide (a0_1 > 3)) a0_0 a0_1 l0_2 a0_3) else ((lines_Right.f l0_2).bind fun t121 => (tree_thing.j0 k (!t121) a0_0 a0_1 l0_2 a0_3)))) else (tree_thing.j0 k (!t120) a0_0 a0_1 l0_2 a0_3)) = some r:=H
 have A2:=Aside0.mk A20
 clear A20
 have HC3:=Aside0.mk H
 clear H
 go_enter Tryz.func90,Tryz.ntmps90
 go_upto_if 3 with (first | ((with_reducible refine gate_dst (N:=1) rfl ?_); (try (refine gate_guard (by rfl) ?_; dsimp only)); refine box_event ?hg (N:=1) ?hd (cs:=#[.string a0_0,.int .i64 a0_1,.slice A0_2 l0_2.length c0_2,.string a0_3]) (t:=41) ?hr ?_; (case hd => rfl); (case hg => rfl); (case hr => first | (go_simp; done) | (go_simp; rfl)); intro gb119 hg w4 hbox hb; have n0_:=Aside0.mk (below_step (by repeat (first | (with_reducible first | exact HB.out | apply below_alloc | apply pw_below_drewN | apply below_drew1) | exact HB.out)) hb); have n1_:=Aside0.mk (hbox); have n2_:=Aside0.mk ((by rw [hg]; exact (below_size (by repeat (first | (with_reducible first | exact HB.out | apply below_alloc | apply pw_below_drewN | apply below_drew1) | exact HB.out))) : w.heap.size ≤ gb119)); have n3_:=Aside0.mk ((by rw [hg]; exact (below_size (by repeat (first | (with_reducible first | exact HB.out | apply below_alloc | apply pw_below_drewN | apply below_drew1) | exact HB.out))) : w.heap.size ≤ gb119)); clear HB; have HB:=n0_; have BK119:=n1_; have GW119:=n2_; have GE119:=n3_; clear n0_ n1_ n2_ n3_; clear hb hbox hg; have hcz5_0 : w4.cell? ⟨gb119,0,none⟩ = some (.string a0_0):=(blk_cell BK119.out 0).trans rfl; have hcz5_1 : w4.cell? ⟨gb119,1,none⟩ = some (.int .i64 a0_1):=(blk_cell BK119.out 1).trans rfl; have hcz5_2 : w4.cell? ⟨gb119,2,none⟩ = some (.slice A0_2 l0_2.length c0_2):=(blk_cell BK119.out 2).trans rfl; have hcz5_3 : w4.cell? ⟨gb119,3,none⟩ = some (.string a0_3):=(blk_cell BK119.out 3).trans rfl; have hfz5_0:=blk_frozen BK119.out 0; have hfz5_1:=blk_frozen BK119.out 1; have hfz5_2:=blk_frozen BK119.out 2; have hfz5_3:=blk_frozen BK119.out 3) | ((with_reducible refine gate_callee (f:=66) rfl ?_); refine goesL_ (some 6) rfl rfl Tryz.func66 (by kernel_rfl) rfl #[.string a0_0] rfl (by (try simp only [List.map_toArray,List.map_cons,List.map_nil]); first | done | rfl | (simp only [List.length_drop,List.length_take]; rfl)) ?_; (with_reducible refine (path_Right.calls a0_0 t120 _ A2.out).mono ?_); rintro e w6 ⟨rfl,hb⟩; refine ⟨_,rfl,?_⟩; have n0_:=Aside0.mk (blk_below (g:=gb119) (o:=.cells #[.string a0_0,.int .i64 a0_1,.slice A0_2 l0_2.length c0_2,.string a0_3] 41 (0,0)) (by (with_reducible repeat (first | refine blk_drewN ?_ _ | refine blk_drew ?_ | refine blk_alloc ?_ _)); exact BK119.out) hb); have n1_:=Aside0.mk (below_step (by repeat (first | (with_reducible first | exact HB.out | apply below_alloc | apply pw_below_drewN | apply below_drew1 | refine below_set ?_ GE119.out) | exact HB.out)) hb); clear BK119; clear HB; have BK119:=n0_; have HB:=n1_; clear n0_ n1_; (try clear hb); (try clear hb2); (try clear hk); (try clear hi)))
 (try simp only [Act.put,List.setIfInBounds_toArray,List.set_cons_zero,List.set_cons_succ])
 go_cut [3] (fun v3 wc => ∃ (kq : Nat) (x3_2 : Bool),v3 = .bool x3_2 ∧ Aside0 (tree_thing.j0 kq x3_2 a0_0 a0_1 l0_2 a0_3 = some r) ∧ Aside0 (kq ≤ k) ∧ Aside0 (wc.heap[gb119]? = some (.cells #[.string a0_0,.int .i64 a0_1,(.slice A0_2 l0_2.length c0_2),.string a0_3] 41 (0,0))) ∧ Aside0 (Below w.heap.size w wc))
 case first =>
  have H:=HC3.out
  clear HC3
  by_cases c7 : t120 = true
  ·subst c7
   have H1 : (if a0_1 < 1 then (tree_thing.j0 k (decide (a0_1 < 1)) a0_0 a0_1 l0_2 a0_3) else (if a0_1 > 3 then (tree_thing.j0 k (decide (a0_1 > 3)) a0_0 a0_1 l0_2 a0_3) else ((lines_Right.f l0_2).bind fun t121 => (tree_thing.j0 k (!t121) a0_0 a0_1 l0_2 a0_3)))) = some r:=by rw [if_pos rfl] at H; exact H
   clear H
   have H:=H1
   clear H1
   by_cases c8 : a0_1 < 1
   ·rw [if_pos c8] at H
    have c8b0 : decide (a0_1 < 1) = true:=decide_eq_true c8
    clear c8
    (first | rw [c8b0] | (simp only [i64_w,i32_w]; rw [c8b0]) | skip)
    have H':=Aside0.mk H
    clear H
    have hcz9_0 : w6.cell? ⟨gb119,0,none⟩ = some (.string a0_0):=(blk_cell BK119.out 0).trans rfl
    have hcz9_1 : w6.cell? ⟨gb119,1,none⟩ = some (.int .i64 a0_1):=(blk_cell BK119.out 1).trans rfl
    have hcz9_2 : w6.cell? ⟨gb119,2,none⟩ = some (.slice A0_2 l0_2.length c0_2):=(blk_cell BK119.out 2).trans rfl
    have hcz9_3 : w6.cell? ⟨gb119,3,none⟩ = some (.string a0_3):=(blk_cell BK119.out 3).trans rfl
    have hfz9_0:=blk_frozen BK119.out 0
    have hfz9_1:=blk_frozen BK119.out 1
    have hfz9_2:=blk_frozen BK119.out 2
    have hfz9_3:=blk_frozen BK119.out 3
    go_wp2
    go_meet
    case rel => exact ⟨_,(decide (a0_1 < 1)),(by first | rfl | (simp; done) | (simp [*]; done)),H',⟨by first | omega | exact Nat.le_refl _⟩,⟨by (with_reducible repeat (first | refine blk_drewN ?_ _ | refine blk_drew ?_ | refine blk_alloc ?_ _)); exact BK119.out⟩,⟨by repeat (first | (with_reducible first | exact HB.out | apply below_alloc | apply pw_below_drewN | apply below_drew1 | refine below_set ?_ GE119.out) | exact HB.out)⟩⟩
   ·rw [if_neg c8] at H
    have c8b0 : decide (a0_1 < 1) = false:=decide_eq_false c8
    clear c8
    (first | rw [c8b0] | (simp only [i64_w,i32_w]; rw [c8b0]) | skip)
    by_cases c10 : a0_1 > 3
    ·rw [if_pos c10] at H
     have c10b0 : decide (3 < a0_1) = true:=decide_eq_true c10
     clear c10
     have H':=Aside0.mk H
     clear H
     have hcz11_0 : w6.cell? ⟨gb119,0,none⟩ = some (.string a0_0):=(blk_cell BK119.out 0).trans rfl
     have hcz11_1 : w6.cell? ⟨gb119,1,none⟩ = some (.int .i64 a0_1):=(blk_cell BK119.out 1).trans rfl
     have hcz11_2 : w6.cell? ⟨gb119,2,none⟩ = some (.slice A0_2 l0_2.length c0_2):=(blk_cell BK119.out 2).trans rfl
     have hcz11_3 : w6.cell? ⟨gb119,3,none⟩ = some (.string a0_3):=(blk_cell BK119.out 3).trans rfl
     have hfz11_0:=blk_frozen BK119.out 0
     have hfz11_1:=blk_frozen BK119.out 1
     have hfz11_2:=blk_frozen BK119.out 2
     have hfz11_3:=blk_frozen BK119.out 3
     go_wp2
     go_meet
     case rel => exact ⟨_,(decide (a0_1 > 3)),(by first | rfl | (simp; done) | (simp [*]; done)),H',⟨by first | omega | exact Nat.le_refl _⟩,⟨by (with_reducible repeat (first | refine blk_drewN ?_ _ | refine blk_drew ?_ | refine blk_alloc ?_ _)); exact BK119.out⟩,⟨by repeat (first | (with_reducible first | exact HB.out | apply below_alloc | apply pw_below_drewN | apply below_drew1 | refine below_set ?_ GE119.out) | exact HB.out)⟩⟩
    ·rw [if_neg c10] at H
     have c10b0 : decide (3 < a0_1) = false:=decide_eq_false c10
     clear c10
     replace H:=Option.bind_eq_some_iff.mp H
     obtain ⟨t121,A120,H⟩:=H
     replace H : (tree_thing.j0 k (!t121) a0_0 a0_1 l0_2 a0_3) = some r:=H
     have A12:=Aside0.mk A120
     clear A120
     have H':=Aside0.mk H
     clear H
     have hcz13_0 : w6.cell? ⟨gb119,0,none⟩ = some (.string a0_0):=(blk_cell BK119.out 0).trans rfl
     have hcz13_1 : w6.cell? ⟨gb119,1,none⟩ = some (.int .i64 a0_1):=(blk_cell BK119.out 1).trans rfl
     have hcz13_2 : w6.cell? ⟨gb119,2,none⟩ = some (.slice A0_2 l0_2.length c0_2):=(blk_cell BK119.out 2).trans rfl
     have hcz13_3 : w6.cell? ⟨gb119,3,none⟩ = some (.string a0_3):=(blk_cell BK119.out 3).trans rfl
     have hfz13_0:=blk_frozen BK119.out 0
     have hfz13_1:=blk_frozen BK119.out 1
     have hfz13_2:=blk_frozen BK119.out 2
     have hfz13_3:=blk_frozen BK119.out 3
     go_wp2_with (first | ((with_reducible refine gate_callee (f:=69) rfl ?_); refine goesL_ (some 16) rfl rfl Tryz.func69 (by kernel_rfl) rfl #[.slice A0_2 l0_2.length c0_2] rfl (by (try simp only [List.map_toArray,List.map_cons,List.map_nil]); first | done | rfl | (simp only [List.length_drop,List.length_take]; rfl)) ?_; (with_reducible refine (lines_Right.calls _ _ l0_2 t121 _ ?side1 ?side2 A12.out).mono ?_); (case side1 => repeat (first | exact (Kd.C_below HR0_2.out HB.out) | (with_reducible refine Kd.C_alloc ?_ _) | (with_reducible refine Kd.C_drewN ?_ _) | (with_reducible refine Kd.C_drew ?_))); (case side2 => exact HC0_2.out); rintro e w' ⟨rfl,⟨nd,rfl⟩⟩; refine ⟨_,rfl,?_⟩))
     go_meet
     case rel => exact ⟨_,(!t121),(by first | rfl | (simp; done) | (simp [*]; done)),H',⟨by first | omega | exact Nat.le_refl _⟩,⟨by (with_reducible repeat (first | refine blk_drewN ?_ _ | refine blk_drew ?_ | refine blk_alloc ?_ _)); exact BK119.out⟩,⟨by repeat (first | (with_reducible first | exact HB.out | apply below_alloc | apply pw_below_drewN | apply below_drew1 | refine below_set ?_ GE119.out) | exact HB.out)⟩⟩
  ·replace c7:=Bool.eq_false_iff.mpr c7
   subst c7
   have H1 : (tree_thing.j0 k (!false) a0_0 a0_1 l0_2 a0_3) = some r:=by rw [if_neg (show ¬ (false = true) by decide)] at H; exact H
   clear H
   have H:=H1
   clear H1
   have H':=Aside0.mk H
   clear H
   go_wp2
   go_meet
   case rel => exact ⟨_,(!false),(by first | rfl | (simp; done) | (simp [*]; done)),H',⟨by first | omega | exact Nat.le_refl _⟩,⟨by (with_reducible repeat (first | refine blk_drewN ?_ _ | refine blk_drew ?_ | refine blk_alloc ?_ _)); exact BK119.out⟩,⟨by repeat (first | (with_reducible first | exact HB.out | apply below_alloc | apply pw_below_drewN | apply below_drew1 | refine below_set ?_ GE119.out) | exact HB.out)⟩⟩
 case rest =>
  clear HC3
  try clear c1
  try clear p2
  try clear c6
  try clear c7
  try clear c8
  try clear c8b0
  try clear c9
  try clear c10
  try clear c10b0
  try clear hcz11_0
  try clear hcz11_1
  try clear hcz11_2
  try clear hcz11_3
  try clear hcz13_0
  try clear hcz13_1
  try clear hcz13_2
  try clear hcz13_3
  try clear hcz5_0
  try clear hcz5_1
  try clear hcz5_2
  try clear hcz5_3
  try clear hcz9_0
  try clear hcz9_1
  try clear hcz9_2
  try clear hcz9_3
  try clear hfz11_0
  try clear hfz11_1
  try clear hfz11_2
  try clear hfz11_3
  try clear hfz13_0
  try clear hfz13_1
  try clear hfz13_2
  try clear hfz13_3
  try clear hfz5_0
  try clear hfz5_1
  try clear hfz5_2
  try clear hfz5_3
  try clear hfz9_0
  try clear hfz9_1
  try clear hfz9_2
  try clear hfz9_3
  obtain ⟨kq,x3_2,rfl,HA,HJ2,BK119,HB⟩:=hcut
  cases kq with
  | zero => exact absurd HA.out (by simp [tree_thing.j0])
  | succ kj2 =>
   have H:=HA.out
   clear HA
   simp only [tree_thing.j0] at H
   by_cases c14 : x3_2 = true
   ·subst c14
    have H1 : (some false) = some r:=by rw [if_pos rfl] at H; exact H
    clear H
    have H:=H1
    clear H1
    obtain rfl:=Option.some.inj H
    go_wp2
    go_ret
    exact ⟨by first | rfl | (simp [errW_none,errW_some] <;> rfl) | (simp [*,errW_none,errW_some] <;> rfl),by repeat (first | (with_reducible first | exact HB.out | apply below_alloc | apply pw_below_drewN | apply below_drew1 | refine below_set ?_ GE119.out) | exact HB.out)⟩
   ·replace c14:=Bool.eq_false_iff.mpr c14
    subst c14
    have H1 : (if a0_1 = 2 then (tree_thing.j1 kj2 false a0_0 a0_1 l0_2 a0_3) else (tree_thing.j1 kj2 (decide ((l0_2.length : Int) > 0)) a0_0 a0_1 l0_2 a0_3)) = some r:=by rw [if_neg (show ¬ (false = true) by decide)] at H; exact H
    clear H
    have H:=H1
    clear H1
    have HC15:=Aside0.mk H
    clear H
    go_upto_region 6 with (fail)
    go_cut [18] (fun v18 wc => ∃ (kq : Nat) (x18_14 : Bool),v18 = .bool x18_14 ∧ Aside0 (tree_thing.j1 kq x18_14 a0_0 a0_1 l0_2 a0_3 = some r) ∧ Aside0 (kq ≤ kj2) ∧ Aside0 (wc.heap[gb119]? = some (.cells #[.string a0_0,.int .i64 a0_1,(.slice A0_2 l0_2.length c0_2),.string a0_3] 41 (0,0))) ∧ Aside0 (Below w.heap.size w wc))
    case first =>
     have H:=HC15.out
     clear HC15
     by_cases c16 : a0_1 = 2
     ·rw [if_pos c16] at H
      have c16b0 : (a0_1 == 2) = true:=beq_iff_eq.mpr c16
      have c16b1 : (a0_1 != 2) = false:=bne_eq_false_iff_eq.mpr c16
      clear c16
      (first | rw [c16b0] | (simp only [i64_w,i32_w]; rw [c16b0]) | skip)
      have H':=Aside0.mk H
      clear H
      have hcz17_0 : wc.cell? ⟨gb119,0,none⟩ = some (.string a0_0):=(blk_cell BK119.out 0).trans rfl
      have hcz17_1 : wc.cell? ⟨gb119,1,none⟩ = some (.int .i64 a0_1):=(blk_cell BK119.out 1).trans rfl
      have hcz17_2 : wc.cell? ⟨gb119,2,none⟩ = some (.slice A0_2 l0_2.length c0_2):=(blk_cell BK119.out 2).trans rfl
      have hcz17_3 : wc.cell? ⟨gb119,3,none⟩ = some (.string a0_3):=(blk_cell BK119.out 3).trans rfl
      have hfz17_0:=blk_frozen BK119.out 0
      have hfz17_1:=blk_frozen BK119.out 1
      have hfz17_2:=blk_frozen BK119.out 2
      have hfz17_3:=blk_frozen BK119.out 3
      go_wp2
      go_meet
      case rel => exact ⟨_,(false),(by first | rfl | (simp; done) | (simp [*]; done)),H',⟨by have:=HJ2.out; first | omega | exact Nat.le_refl _⟩,⟨by (with_reducible repeat (first | refine blk_drewN ?_ _ | refine blk_drew ?_ | refine blk_alloc ?_ _)); exact BK119.out⟩,⟨by repeat (first | (with_reducible first | exact HB.out | apply below_alloc | apply pw_below_drewN | apply below_drew1 | refine below_set ?_ GE119.out) | exact HB.out)⟩⟩
     ·rw [if_neg c16] at H
      have c16b0 : (a0_1 == 2) = false:=beq_eq_false_iff_ne.mpr c16
      have c16b1 : (a0_1 != 2) = true:=bne_iff_ne.mpr c16
      (first | rw [c16b0] | (simp only [i64_w,i32_w]; rw [c16b0]) | skip)
      have H':=Aside0.mk H
      clear H
      have hcz18_0 : wc.cell? ⟨gb119,0,none⟩ = some (.string a0_0):=(blk_cell BK119.out 0).trans rfl
      have hcz18_1 : wc.cell? ⟨gb119,1,none⟩ = some (.int .i64 a0_1):=(blk_cell BK119.out 1).trans rfl
      have hcz18_2 : wc.cell? ⟨gb119,2,none⟩ = some (.slice A0_2 l0_2.length c0_2):=(blk_cell BK119.out 2).trans rfl
      have hcz18_3 : wc.cell? ⟨gb119,3,none⟩ = some (.string a0_3):=(blk_cell BK119.out 3).trans rfl
      have hfz18_0:=blk_frozen BK119.out 0
      have hfz18_1:=blk_frozen BK119.out 1
      have hfz18_2:=blk_frozen BK119.out 2
      have hfz18_3:=blk_frozen BK119.out 3
      go_wp2
      go_meet
      case rel => exact ⟨_,(decide ((l0_2.length : Int) > 0)),(by first | rfl | (simp; done) | (simp [*]; done)),H',⟨by have:=HJ2.out; first | omega | exact Nat.le_refl _⟩,⟨by (with_reducible repeat (first | refine blk_drewN ?_ _ | refine blk_drew ?_ | refine blk_alloc ?_ _)); exact BK119.out⟩,⟨by repeat (first | (with_reducible first | exact HB.out | apply below_alloc | apply pw_below_drewN | apply below_drew1 | refine below_set ?_ GE119.out) | exact HB.out)⟩⟩
    case rest =>
     clear HC15
     try clear c1
     try clear p2
     try clear c6
     try clear c7
     try clear c8
     try clear c8b0
     try clear c9
     try clear c10
     try clear c10b0
     try clear c14
     try clear c16
     try clear c16b0
     try clear c16b1
     try clear hcz11_0
     try clear hcz11_1
     try clear hcz11_2
     try clear hcz11_3
     try clear hcz13_0
     try clear hcz13_1
     try clear hcz13_2
     try clear hcz13_3
     try clear hcz17_0
     try clear hcz17_1
     try clear hcz17_2
     try clear hcz17_3
     try clear hcz18_0
     try clear hcz18_1
     try clear hcz18_2
     try clear hcz18_3
     try clear hcz5_0
     try clear hcz5_1
     try clear hcz5_2
     try clear hcz5_3
     try clear hcz9_0
     try clear hcz9_1
     try clear hcz9_2
     try clear hcz9_3
     try clear hfz11_0
     try clear hfz11_1
     try clear hfz11_2
     try clear hfz11_3
     try clear hfz13_0
     try clear hfz13_1
     try clear hfz13_2
     try clear hfz13_3
     try clear hfz17_0
     try clear hfz17_1
     try clear hfz17_2
     try clear hfz17_3
     try clear hfz18_0
     try clear hfz18_1
     try clear hfz18_2
     try clear hfz18_3
     try clear hfz5_0
     try clear hfz5_1
     try clear hfz5_2
     try clear hfz5_3
     try clear hfz9_0
     try clear hfz9_1
     try clear hfz9_2
     try clear hfz9_3
     try clear p2
     obtain ⟨kq,x18_14,rfl,HA,HJ14,BK119,HB⟩:=hcut
     cases kq with
     | zero => exact absurd HA.out (by simp [tree_thing.j1])
     | succ kj14 =>
      have H:=HA.out
      clear HA
      simp only [tree_thing.j1] at H
      by_cases c19 : x18_14 = true
      ·subst c19
       have H1 : (some false) = some r:=by rw [if_pos rfl] at H; exact H
       clear H
       have H:=H1
       clear H1
       obtain rfl:=Option.some.inj H
       go_wp2
       go_ret
       exact ⟨by first | rfl | (simp [errW_none,errW_some] <;> rfl) | (simp [*,errW_none,errW_some] <;> rfl),by repeat (first | (with_reducible first | exact HB.out | apply below_alloc | apply pw_below_drewN | apply below_drew1 | refine below_set ?_ GE119.out) | exact HB.out)⟩
      ·replace c19:=Bool.eq_false_iff.mpr c19
       subst c19
       have H1 : (if a0_1 = 3 then (some true) else (if a0_3.toList = ([] : List UInt8) then (some true) else (some false))) = some r:=by rw [if_neg (show ¬ (false = true) by decide)] at H; exact H
       clear H
       have H:=H1
       clear H1
       by_cases c20 : a0_1 = 3
       ·rw [if_pos c20] at H
        have c20b0 : (a0_1 == 3) = true:=beq_iff_eq.mpr c20
        have c20b1 : (a0_1 != 3) = false:=bne_eq_false_iff_eq.mpr c20
        clear c20
        obtain rfl:=Option.some.inj H
        have hcz21_0 : wc.cell? ⟨gb119,0,none⟩ = some (.string a0_0):=(blk_cell BK119.out 0).trans rfl
        have hcz21_1 : wc.cell? ⟨gb119,1,none⟩ = some (.int .i64 a0_1):=(blk_cell BK119.out 1).trans rfl
        have hcz21_2 : wc.cell? ⟨gb119,2,none⟩ = some (.slice A0_2 l0_2.length c0_2):=(blk_cell BK119.out 2).trans rfl
        have hcz21_3 : wc.cell? ⟨gb119,3,none⟩ = some (.string a0_3):=(blk_cell BK119.out 3).trans rfl
        have hfz21_0:=blk_frozen BK119.out 0
        have hfz21_1:=blk_frozen BK119.out 1
        have hfz21_2:=blk_frozen BK119.out 2
        have hfz21_3:=blk_frozen BK119.out 3
        go_wp2
        go_ret
        exact ⟨by first | rfl | (simp [errW_none,errW_some] <;> rfl) | (simp [*,errW_none,errW_some] <;> rfl),by repeat (first | (with_reducible first | exact HB.out | apply below_alloc | apply pw_below_drewN | apply below_drew1 | refine below_set ?_ GE119.out) | exact HB.out)⟩
       ·rw [if_neg c20] at H
        have c20b0 : (a0_1 == 3) = false:=beq_eq_false_iff_ne.mpr c20
        have c20b1 : (a0_1 != 3) = true:=bne_iff_ne.mpr c20
        by_cases c22 : a0_3.toList = ([] : List UInt8)
        ·rw [if_pos c22] at H
         have c22b0 : (a0_3.toList == ([] : List UInt8)) = true:=beq_iff_eq.mpr c22
         have c22b1 : (a0_3.toList != ([] : List UInt8)) = false:=bne_eq_false_iff_eq.mpr c22
         clear c22
         obtain rfl:=Option.some.inj H
         have hcz23_0 : wc.cell? ⟨gb119,0,none⟩ = some (.string a0_0):=(blk_cell BK119.out 0).trans rfl
         have hcz23_1 : wc.cell? ⟨gb119,1,none⟩ = some (.int .i64 a0_1):=(blk_cell BK119.out 1).trans rfl
         have hcz23_2 : wc.cell? ⟨gb119,2,none⟩ = some (.slice A0_2 l0_2.length c0_2):=(blk_cell BK119.out 2).trans rfl
         have hcz23_3 : wc.cell? ⟨gb119,3,none⟩ = some (.string a0_3):=(blk_cell BK119.out 3).trans rfl
         have hfz23_0:=blk_frozen BK119.out 0
         have hfz23_1:=blk_frozen BK119.out 1
         have hfz23_2:=blk_frozen BK119.out 2
         have hfz23_3:=blk_frozen BK119.out 3
         go_wp2
         go_ret
         exact ⟨by first | rfl | (simp [errW_none,errW_some] <;> rfl) | (simp [*,errW_none,errW_some] <;> rfl),by repeat (first | (with_reducible first | exact HB.out | apply below_alloc | apply pw_below_drewN | apply below_drew1 | refine below_set ?_ GE119.out) | exact HB.out)⟩
        ·rw [if_neg c22] at H
         have c22b0 : (a0_3.toList == ([] : List UInt8)) = false:=beq_eq_false_iff_ne.mpr c22
         have c22b1 : (a0_3.toList != ([] : List UInt8)) = true:=bne_iff_ne.mpr c22
         obtain rfl:=Option.some.inj H
         have hcz24_0 : wc.cell? ⟨gb119,0,none⟩ = some (.string a0_0):=(blk_cell BK119.out 0).trans rfl
         have hcz24_1 : wc.cell? ⟨gb119,1,none⟩ = some (.int .i64 a0_1):=(blk_cell BK119.out 1).trans rfl
         have hcz24_2 : wc.cell? ⟨gb119,2,none⟩ = some (.slice A0_2 l0_2.length c0_2):=(blk_cell BK119.out 2).trans rfl
         have hcz24_3 : wc.cell? ⟨gb119,3,none⟩ = some (.string a0_3):=(blk_cell BK119.out 3).trans rfl
         have hfz24_0:=blk_frozen BK119.out 0
         have hfz24_1:=blk_frozen BK119.out 1
         have hfz24_2:=blk_frozen BK119.out 2
         have hfz24_3:=blk_frozen BK119.out 3
         go_wp2
         go_ret
         exact ⟨by first | rfl | (simp [errW_none,errW_some] <;> rfl) | (simp [*,errW_none,errW_some] <;> rfl),by repeat (first | (with_reducible first | exact HB.out | apply below_alloc | apply pw_below_drewN | apply below_drew1 | refine below_set ?_ GE119.out) | exact HB.out)⟩

-- NOT PRINTED: function 51 (tree_Right)

-- NOT PRINTED: function 73 (api_Entry_73)

-- NOT PRINTED: function 189 (bytealg_abigen_runtime_cmpstring)

-- NOT PRINTED: function 173 (bytealg_CompareString)

-- NOT PRINTED: function 143 (strings_Compare)

-- NOT PRINTED: function 107 (prim_order)

-- NOT PRINTED: function 130 (api_Entry_130)

-- NOT PRINTED: function 92 (prim_where)

-- NOT PRINTED: function 91 (prim_room)

-- NOT PRINTED: function 131 (api_Entry_131)

-- NOT PRINTED: function 181 (api_Entry_181)

-- NOT PRINTED: function 158 (api_Entry_158)

-- NOT PRINTED: function 132 (api_Entry_132)

-- NOT PRINTED: function 93 (api_Entry_93)

-- NOT PRINTED: function 94 (prim_kinds)

-- NOT PRINTED: function 52 (prim_add)

-- NOT PRINTED: function 95 (prim_there)

-- NOT PRINTED: function 133 (api_Entry_133)

-- NOT PRINTED: function 96 (api_Entry_96)

-- NOT PRINTED: function 99 (api_Entry_99)

-- NOT PRINTED: function 53 (prim_remove)

-- NOT PRINTED: function 54 (prim_changing)

/-! ### slices_Equal_string_string: function 135 -/
def slices_Equal_string_string.l0 : Nat → List ByteArray → List ByteArray → Int → Int → Option (Bool)
 | 0,_,_,_,_ => none
 | k + 1,x0,x1,x12,x13 => if x13 < x12 then (if 0 ≤ x13 then (if x13 < (x0.length : Int) then (if x13 < (x1.length : Int) then (if (rdOf ByteArray.empty x0 x13).toList = (rdOf ByteArray.empty x1 x13).toList then (slices_Equal_string_string.l0 k x0 x1 x12 (wrap64 (x13 + 1))) else (some false)) else (none)) else (none)) else (none)) else (some true)
def slices_Equal_string_string.f (k : Nat) (l0 : List ByteArray) (l1 : List ByteArray) : Option (Bool):=if (l0.length : Int) = (l1.length : Int) then (slices_Equal_string_string.l0 k l0 l1 (l0.length : Int) 0) else (some false)
theorem slices_Equal_string_string.mono_l : ∀ k,(∀ y0 y1 y2 y3,LeO (slices_Equal_string_string.l0 k y0 y1 y2 y3) (slices_Equal_string_string.l0 (k + 1) y0 y1 y2 y3))
 | 0 => fun _ _ _ _ r h => by simp [slices_Equal_string_string.l0] at h
 | k + 1 => by
  have ih0:=slices_Equal_string_string.mono_l k
  ·intro y0 y1 y2 y3
   unfold slices_Equal_string_string.l0
   repeat' first
   | (with_reducible exact ih0 _ _ _ _)
   | (with_reducible exact LeO.refl _)
   | (with_reducible exact LeO.none _)
   | (with_reducible refine LeO.ite ?_ ?_)
   | (with_reducible refine LeO.bind ?_ (fun _ => ?_))
   | exact ih0 _ _ _ _
   | exact LeO.none _
   | refine LeO.ite ?_ ?_
   | refine LeO.bind ?_ (fun _ => ?_)
theorem slices_Equal_string_string.mono : ∀ a0 a1 k,LeO (slices_Equal_string_string.f k a0 a1) (slices_Equal_string_string.f (k + 1) a0 a1):=by
 intro a0 a1 k
 have ih0:=slices_Equal_string_string.mono_l k
 unfold slices_Equal_string_string.f
 repeat' first
   | (with_reducible exact ih0 _ _ _ _)
   | (with_reducible exact LeO.refl _)
   | (with_reducible exact LeO.none _)
   | (with_reducible refine LeO.ite ?_ ?_)
   | (with_reducible refine LeO.bind ?_ (fun _ => ?_))
   | exact ih0 _ _ _ _
   | exact LeO.none _
   | refine LeO.ite ?_ ?_
   | refine LeO.bind ?_ (fun _ => ?_)
set_option maxHeartbeats 8000000 in
set_option maxRecDepth 100000 in
theorem slices_Equal_string_string.calls (k : Nat) (A0 : Option Addr) (c0 : Nat) (l0 : List ByteArray) (A1 : Option Addr) (c1 : Nat) (l1 : List ByteArray) (r : Bool) (w : World) (hr0 : Kd.C Kd.string w A0 l0.length l0) (hc0 : l0.length ≤ c0) (hr1 : Kd.C Kd.string w A1 l1.length l1) (hc1 : l1.length ≤ c1) (h : slices_Equal_string_string.f k l0 l1 = some r) :
  Calls Tryz.prog 135 #[.slice A0 l0.length c0,.slice A1 l1.length c1] w fun e w' => e = .returned (.bool r) ∧ Drawn0 w w':=by
 have HR0:=Aside0.mk hr0
 have HC0:=Aside0.mk hc0
 clear hr0 hc0
 have HR1:=Aside0.mk hr1
 have HC1:=Aside0.mk hc1
 clear hr1 hc1
 have H : (if (l0.length : Int) = (l1.length : Int) then (slices_Equal_string_string.l0 k l0 l1 (l0.length : Int) 0) else (some false)) = some r:=h
 clear h
 by_cases c3 : (l0.length : Int) = (l1.length : Int)
 ·rw [if_pos c3] at H
  have c3b0 : ((l0.length : Int) == (l1.length : Int)) = true:=beq_iff_eq.mpr c3
  have c3b1 : ((l0.length : Int) != (l1.length : Int)) = false:=bne_eq_false_iff_eq.mpr c3
  have c3b2 : (l0.length == l1.length) = true:=by first | simpa using c3 | (simp at c3 ⊢; omega)
  clear c3
  have H':=Aside0.mk H
  clear H
  go_enter Tryz.func135,Tryz.ntmps135
  go_wp2
  repeat (go_quiet (fail); try go_wp2)
  go_loopg [13] k (fun kq v13 w' => ∃ (x13_1 : Int),v13 = .int .i64 x13_1 ∧ Aside0 (slices_Equal_string_string.l0 kq l0 l1 (l0.length : Int) x13_1 = some r) ∧ Aside0 (kq ≤ k) ∧ Drawn0 w w')
  case atStart => exact ⟨(0),(by first | rfl | (simp; done) | (simp [*]; done)),H',⟨Nat.le_refl _⟩,by repeat (first | exact Drawn0.refl _ | apply Drawn0.step)⟩
  case round =>
   clear H'
   try clear c1
   try clear p2
   try clear c3
   try clear c3b0
   try clear c3b1
   try clear c3b2
   obtain ⟨x13_1,rfl,HA,HK1,⟨m1,rfl⟩⟩:=hrel
   cases gk with
   | zero => exact absurd HA.out (by simp [slices_Equal_string_string.l0])
   | succ k1 =>
    have H:=HA.out
    clear HA
    simp only [slices_Equal_string_string.l0] at H
    by_cases c4 : x13_1 < (l0.length : Int)
    ·rw [if_pos c4] at H
     have c4b0 : decide (x13_1 < (l0.length : Int)) = true:=decide_eq_true c4
     clear c4
     by_cases c5 : 0 ≤ x13_1
     ·rw [if_pos c5] at H
      have c5b0 : decide (0 ≤ x13_1) = true:=decide_eq_true c5
      clear c5
      by_cases c6 : x13_1 < (l0.length : Int)
      ·rw [if_pos c6] at H
       have c6b0 : decide (x13_1 < (l0.length : Int)) = true:=decide_eq_true c6
       clear c6
       by_cases c7 : x13_1 < (l1.length : Int)
       ·rw [if_pos c7] at H
        have c7b0 : decide (x13_1 < (l1.length : Int)) = true:=decide_eq_true c7
        clear c7
        by_cases c8 : (rdOf ByteArray.empty l0 x13_1).toList = (rdOf ByteArray.empty l1 x13_1).toList
        ·rw [if_pos c8] at H
         have c8b0 : ((rdOf ByteArray.empty l0 x13_1).toList == (rdOf ByteArray.empty l1 x13_1).toList) = true:=beq_iff_eq.mpr c8
         have c8b1 : ((rdOf ByteArray.empty l0 x13_1).toList != (rdOf ByteArray.empty l1 x13_1).toList) = false:=bne_eq_false_iff_eq.mpr c8
         clear c8
         have H':=Aside0.mk H
         clear H
         have p137 : 0 ≤ (x13_1 : Int):=of_decide_eq_true (by first | (with_reducible assumption) | assumption)
         have q137 : x13_1 < (l0.length : Int):=of_decide_eq_true (by first | (with_reducible assumption) | assumption)
         obtain ⟨ad137,e137,hx137_0⟩:=Kd.at_string HR0.out x13_1 p137 q137
         cases e137
         replace p137:=eq_true p137
         replace q137:=eq_true q137
         have p138 : 0 ≤ (x13_1 : Int):=of_decide_eq_true (by first | (with_reducible assumption) | assumption)
         have q138 : x13_1 < (l1.length : Int):=of_decide_eq_true (by first | (with_reducible assumption) | assumption)
         obtain ⟨ad138,e138,hx138_0⟩:=Kd.at_string HR1.out x13_1 p138 q138
         cases e138
         replace p138:=eq_true p138
         replace q138:=eq_true q138
         go_wp2
         repeat (go_quiet (fail); try go_wp2)
         go_roundg k1
         case measure => have:=HK1.out; omega
         case rel => exact ⟨(wrap64 (x13_1 + 1)),(by first | rfl | (simp; done) | (simp [*]; done)),H',⟨by have:=HK1.out; omega⟩,by repeat (first | exact Drawn0.refl _ | apply Drawn0.step)⟩
        ·rw [if_neg c8] at H
         have c8b0 : ((rdOf ByteArray.empty l0 x13_1).toList == (rdOf ByteArray.empty l1 x13_1).toList) = false:=beq_eq_false_iff_ne.mpr c8
         have c8b1 : ((rdOf ByteArray.empty l0 x13_1).toList != (rdOf ByteArray.empty l1 x13_1).toList) = true:=bne_iff_ne.mpr c8
         obtain rfl:=Option.some.inj H
         have p137 : 0 ≤ (x13_1 : Int):=of_decide_eq_true (by first | (with_reducible assumption) | assumption)
         have q137 : x13_1 < (l0.length : Int):=of_decide_eq_true (by first | (with_reducible assumption) | assumption)
         obtain ⟨ad137,e137,hx137_0⟩:=Kd.at_string HR0.out x13_1 p137 q137
         cases e137
         replace p137:=eq_true p137
         replace q137:=eq_true q137
         have p138 : 0 ≤ (x13_1 : Int):=of_decide_eq_true (by first | (with_reducible assumption) | assumption)
         have q138 : x13_1 < (l1.length : Int):=of_decide_eq_true (by first | (with_reducible assumption) | assumption)
         obtain ⟨ad138,e138,hx138_0⟩:=Kd.at_string HR1.out x13_1 p138 q138
         cases e138
         replace p138:=eq_true p138
         replace q138:=eq_true q138
         go_wp2
         repeat (go_quiet (fail); try go_wp2)
         go_ret
         exact ⟨by first | rfl | (simp; done) | (simp [*]; done) | (simp [show ∀ l : List UInt8,(l != []) = !l.isEmpty from fun l => by cases l <;> rfl]; done),by repeat (first | exact Drawn0.refl _ | apply Drawn0.step)⟩
       ·rw [if_neg c7] at H
        exact absurd H (by simp)
      ·rw [if_neg c6] at H
       exact absurd H (by simp)
     ·rw [if_neg c5] at H
      exact absurd H (by simp)
    ·rw [if_neg c4] at H
     have c4b0 : decide (x13_1 < (l0.length : Int)) = false:=decide_eq_false c4
     clear c4
     obtain rfl:=Option.some.inj H
     go_wp2
     repeat (go_quiet (fail); try go_wp2)
     go_ret
     exact ⟨by first | rfl | (simp; done) | (simp [*]; done) | (simp [show ∀ l : List UInt8,(l != []) = !l.isEmpty from fun l => by cases l <;> rfl]; done),by repeat (first | exact Drawn0.refl _ | apply Drawn0.step)⟩
 ·rw [if_neg c3] at H
  have c3b0 : ((l0.length : Int) == (l1.length : Int)) = false:=beq_eq_false_iff_ne.mpr c3
  have c3b1 : ((l0.length : Int) != (l1.length : Int)) = true:=bne_iff_ne.mpr c3
  have c3b2 : (l0.length == l1.length) = false:=by first | simpa using c3 | (simp at c3 ⊢; omega)
  obtain rfl:=Option.some.inj H
  go_enter Tryz.func135,Tryz.ntmps135
  go_wp2
  repeat (go_quiet (fail); try go_wp2)
  go_ret
  exact ⟨by first | rfl | (simp; done) | (simp [*]; done) | (simp [show ∀ l : List UInt8,(l != []) = !l.isEmpty from fun l => by cases l <;> rfl]; done),by repeat (first | exact Drawn0.refl _ | apply Drawn0.step)⟩

-- NOT PRINTED: function 160 (slices_Grow_string_string)

-- NOT PRINTED: function 136 (slices_Concat_string_string)

-- NOT PRINTED: function 101 (diff_Apply)

-- NOT PRINTED: function 55 (prim_hunk)

end Go.Proofs.YthhohbidjhcjeaaGreatDoor.Q
namespace Go.Proofs.YthhohbidjhcjeaaGreatDoor.H
open Go.RowKit Go.Shelf Go.Proofs.YthhohbidjhcjeaaGreatDoorW.PrintWords Go.Proofs.YthhohbidjhcjeaaGreatDoorW.PrintLast Go.Proofs.YthhohbidjhcjeaaGreatDoorW.PrintMore
open Go.Proofs.YthhohbidjhcjeaaGreatDoor.Q Go.Proofs.YthhohbidjhcjeaaGreatDoor.Pl
set_option linter.unusedVariables false
set_option linter.unusedSimpArgs false
/-- May that be in a tree, whatever lies beside it? -/
def thingB (x : S41) : Bool :=
 rightB x.f0 && decide (1 ≤ x.f1) && decide (x.f1 ≤ 3) && linesB x.f2 && (decide (x.f1 = 2) || decide (x.f2.length = 0)) && (decide (x.f1 = 3) || decide (x.f3.toList = []))
theorem thing_f (x : S41) (h : x.f0.size ≤ 140737488355328) : tree_thing.f 2 x.f0 x.f1 x.f2 x.f3 = some (thingB x):=by
 unfold tree_thing.f thingB
 rw [path_f x.f0 h,Option.bind_some]
 have hl : lines_Right.f x.f2 = some (linesB x.f2):=rfl
 rw [hl,Option.bind_some]
 simp only [tree_thing.j0,tree_thing.j1]
 cases rightB x.f0 with
 | false => simp
 | true =>
  by_cases h1 : x.f1 < 1
  ·have : ¬ 1 ≤ x.f1:=by omega
   simp [h1,this]
  ·have h1' : 1 ≤ x.f1:=by omega
   by_cases h3 : x.f1 > 3
   ·have : ¬ x.f1 ≤ 3:=by omega
    simp [h1,h3,this]
   ·have h3' : x.f1 ≤ 3:=by omega
    cases linesB x.f2 with
    | false => simp [h1,h3]
    | true =>
     by_cases k2 : x.f1 = 2
     ·simp [k2]
      by_cases d : x.f3.toList = [] <;> simp [d]
     ·by_cases hz : x.f2.length = 0
      ·by_cases k3 : x.f1 = 3
       ·simp [k3,hz]
       ·by_cases d : x.f3.toList = [] <;> simp [h1,h1',h3,h3',k2,k3,hz,d]
      ·have hp : (x.f2.length : Int) > 0:=by omega
       have hp2 : 0 < x.f2.length:=by omega
       simp [h1,h1',h3,h3',k2,hz,hp,hp2]
theorem thing_at (x : S41) (X : Option Addr) (c : Nat) (w : World) (hx : Re w x X c) (h : x.f0.size ≤ 140737488355328) :
  Calls Tryz.prog 90 #[.agg #[.string x.f0,.int .i64 x.f1,.slice X x.f2.length c,.string x.f3]] w fun e w' => e = .returned (.bool (thingB x)) ∧ Below w.heap.size w w' :=
 tree_thing.calls 2 x.f0 x.f1 X c x.f2 x.f3 _ w hx.g hx.l (thing_f x h)
end Go.Proofs.YthhohbidjhcjeaaGreatDoor.H
namespace Go.Proofs.YthhohbidjhcjeaaGreatDoor.H
open Go.RowKit Go.Proofs.YthhohbidjhcjeaaGreatDoor.Q Go.Proofs.YthhohbidjhcjeaaGreatDoor.Pl
set_option linter.unusedVariables false
set_option linter.unusedSimpArgs false
/-- Is a path's directory in a row? -/
def dirB (l : List S41) (p : ByteArray) : Bool:=l.any (fun x => decide (x.f0 = p) && decide (x.f1 = 1))
/-- May an entry follow those ahead of it? -/
def nextB (l : List S41) (x : S41) : Bool :=
 thingB x && (match l.getLast? with | none => true | some y => ltP y.f0 x.f0) && (match parentV x.f0 with | none => true | some p => dirB l p)
/-- .. and each of a row, behind those ahead. -/
def stepsB : List S41 → List S41 → Bool
 | _,[] => true
 | l,x :: r => nextB l x && stepsB (l ++ [x]) r
def treeB (l : List S41) : Bool:=decide (l.length ≤ 1024) && stepsB [] l
theorem steps_srt : ∀ (r l : List S41),Srt l → stepsB l r = true → Srt (l ++ r)
 | [],l,hl,_ => by simpa using hl
 | x :: r,l,hl,h => by
  simp only [stepsB,Bool.and_eq_true] at h
  obtain ⟨hn,hr⟩:=h
  have hx : Srt (l ++ [x]):=by
   unfold nextB at hn
   simp only [Bool.and_eq_true] at hn
   have hlast:=hn.1.2
   unfold Srt at hl ⊢
   rw [List.pairwise_append]
   refine ⟨hl,by simp,fun a ha b hb => ?_⟩
   rw [List.mem_singleton] at hb
   subst hb
   cases hg : l.getLast? with
   | none => rw [List.getLast?_eq_none_iff] at hg; rw [hg] at ha; cases ha
   | some y =>
    rw [hg] at hlast
    obtain ⟨l',rfl⟩:=List.getLast?_eq_some_iff.mp hg
    rcases List.mem_append.mp ha with h1 | h1
    ·exact ltP_trans ((List.pairwise_append.mp hl).2.2 a h1 y (by simp)) hlast
    ·rw [List.mem_singleton] at h1; rw [h1]; exact hlast
  have:=steps_srt r (l ++ [x]) hx hr
  rwa [List.append_assoc] at this
theorem tree_srt {l : List S41} (h : treeB l = true) : Srt l:=by
 unfold treeB at h
 rw [Bool.and_eq_true] at h
 simpa using steps_srt l [] (by simp [Srt]) h.2
theorem tree_len {l : List S41} (h : treeB l = true) : l.length ≤ 1024:=by
 unfold treeB at h
 rw [Bool.and_eq_true] at h
 exact of_decide_eq_true h.1
end Go.Proofs.YthhohbidjhcjeaaGreatDoor.H
namespace Go.Proofs.YthhohbidjhcjeaaGreatDoor.H
open Go.RowKit Go.Proofs.YthhohbidjhcjeaaGreatDoor.Q Go.Proofs.YthhohbidjhcjeaaGreatDoorW.PrintWords Go.Proofs.YthhohbidjhcjeaaGreatDoorW.PrintLast Go.Proofs.YthhohbidjhcjeaaGreatDoorW.PrintMore
set_option linter.unusedVariables false
set_option linter.unusedSimpArgs false
/-- The cells of an entry of nothing. -/
def zero4 : List Value:=[.string ⟨#[]⟩,.int .i64 0,.slice none 0 0,.string ⟨#[]⟩]
theorem clear_one (w : World) (ty : TypeId) (b o c : Nat) (hc : ∀ j,j < 4 → (w.cell? ⟨b,o + j,none⟩).isSome = true) (hf : ∀ j,j < 4 → w.frozen? ⟨b,o + j,none⟩ = false) :
  (Builtin.clear_ #[22] ty #[.slice (some ⟨b,o,none⟩) 1 c]).run Tryz.prog w = .ok (.tuple #[]) (w.setCells b o zero4):=by
 have hst:=run_storeCells_cells (P:=Tryz.prog) b o zero4 0 w (by simpa [zero4] using hc) (by simpa [zero4] using hf) (by
  intro v hv
  simp only [zero4,List.mem_cons,List.not_mem_nil,or_false] at hv
  rcases hv with rfl | rfl | rfl | rfl <;> rfl)
 simp only [Nat.add_zero] at hst
 have hz : ∀ w,(zeroValue 41).run Tryz.prog w = .ok (.agg #[.string ⟨#[]⟩,.int .i64 0,.slice none 0 0,.string ⟨#[]⟩]) w:=Tryz.zeroValue41
 have hzc : (Builtin.zeroCells (Value.agg #[.string ⟨#[]⟩,.int .i64 0,.slice none 0 0,.string ⟨#[]⟩]).cells 1).toList = zero4:=by kernel_rfl
 simp [Builtin.clear_,run_underlying Tryz.underlying22,hz,hzc,hst]
theorem below_cells {B g : Nat} {a : World} (hg : B ≤ g) : ∀ (vs : List Value) (o : Nat) (w : World),Below B a w → Below B a (w.setCells g o vs)
 | [],_,_,h => h
 | v :: r,o,w,h => below_cells hg r (o + 1) _ (h.setCell hg _)
set_option maxHeartbeats 4000000 in
set_option maxRecDepth 1000000 in
theorem delete_at (w : World) (l : List S41) (v : Value) (i : Nat) (W : World) (hrow : Row w W v l) (hB : Below w.heap.size w W) (hi : i < l.length) (hl : l.length ≤ 1000000000) :
  Calls Tryz.prog 99 #[v,.int .i64 i,.int .i64 ((i : Int) + 1)] W fun e W' => ∃ A c,e = .returned (.slice A (l.length - 1) c) ∧ l.length - 1 ≤ c ∧ ReadsRow (Rw w) 4 W' A (l.length - 1) (l.eraseIdx i) ∧ Below w.heap.size w W':=by
 obtain ⟨inner,⟨hlen,ho⟩,hr⟩:=hrow
 rcases ho with ⟨rfl,h0⟩ | ⟨g,cap,cur,rfl,hg,hh,hnc,hcm,hcs,ht⟩
 ·omega
 ·obtain ⟨n,hn⟩ : ∃ n,l.length = n:=⟨_,rfl⟩
  rw [hn] at hlen hnc ht hi hl ⊢
  have HR:=Aside0.mk hr
  have HH:=Aside0.mk hh
  have HT:=Aside0.mk ht
  have HLEN:=Aside0.mk hlen
  have HCS:=Aside0.mk hcs
  have HN:=Aside0.mk hn
  have HB:=Aside0.mk hB
  have HG:=Aside0.mk hg
  have hcap : cap ≤ 9223372036854775807:=hcm
  have hi1 : (i : Int) ≤ (i : Int) + 1:=by omega
  have hi2 : (i : Int) + 1 ≤ (n : Int):=by omega
  have hi3 : (0 : Int) ≤ (i : Int):=by omega
  have hi4 : (i : Int) + 1 ≤ (cap : Int):=by omega
  have hi5 : (i : Int) ≤ (cap : Int):=by omega
  have hnc' : (n : Int) ≤ (cap : Int):=by omega
  have hi6 : (0 : Int) ≤ (i : Int) + 1:=by omega
  have mixed : Tryz.prog.follows Departure.mixedOrders = true:=by kernel_rfl
  have hne : ((i : Int) == (i : Int) + 1) = false:=by rw [beq_eq_false_iff_ne]; omega
  clear hr hh ht hlen hcs hn hB hg hcm
  go_enter Tryz.func99,Tryz.ntmps99
  go_wp2_with fail
  obtain ⟨news,hnews⟩ : ∃ news,news = inner.drop ((i + 1) * 4):=⟨_,rfl⟩
  have s1 : Aside0 (news.length = (n - (i + 1)) * 4):=⟨by rw [hnews,List.length_drop,HLEN.out,Nat.sub_mul]⟩
  have hcell : ∀ p u,inner[p]? = some u → W.drew.cell? ⟨g,p,none⟩ = some u:=by
   intro p u hp
   rw [← HT.out,List.getElem?_take] at hp
   split at hp
   ·exact (blk_cell (w:=W.drew) HH.out p).trans (by simpa using hp)
   ·cases hp
  have hone:=reps_one HR.out
  have s2 : Aside0 (∀ u ∈ news,u.oneCell' = true):=⟨by rw [hnews]; exact fun u hu => hone u (List.mem_of_mem_drop hu)⟩
  obtain ⟨A,hA,hsrc⟩ : ∃ A : Addr,(if cap = i + 1 then (some (⟨g,0,none⟩ : Addr)) else some ⟨g,(i + 1) * 4,none⟩) = some A ∧ Aside0 (∀ t u,news[t]? = some u → W.drew.cell? (A.add t) = some u):=by
   by_cases h : cap = i + 1
   ·refine ⟨⟨g,0,none⟩,by simp [h],⟨fun t u hu => ?_⟩⟩
    have h0 : news.length = 0:=by rw [s1.out]; omega
    rw [List.length_eq_zero_iff.1 h0] at hu
    simp at hu
   ·refine ⟨⟨g,(i + 1) * 4,none⟩,by simp [h],⟨fun t u hu => ?_⟩⟩
    rw [hnews,List.getElem?_drop] at hu
    rw [Addr.add_lit]
    exact hcell _ _ hu
  have s3 : Aside0 (∀ t,t < news.length → (W.drew.cell? ⟨g,0 + i * 4 + t,none⟩).isSome = true ∧ W.drew.frozen? ⟨g,0 + i * 4 + t,none⟩ = false):=⟨by
   intro t ht
   rw [s1.out] at ht
   have hin : 0 + i * 4 + t < inner.length:=by rw [HLEN.out]; omega
   exact ⟨by rw [hcell _ _ (List.getElem?_eq_getElem hin)]; rfl,blk_frozen (w:=W.drew) HH.out _⟩⟩
  obtain ⟨W1,hW1⟩ : ∃ W1,W1 = W.drew.setCells g (0 + i * 4) news:=⟨_,rfl⟩
  obtain ⟨cur1,hh1,hcs1,hl1⟩:=setCells_row news (0 + i * 4) W.drew cur HH.out (by rw [s1.out,HCS.out]; omega)
  rw [← hW1] at hh1
  have HH1:=Aside0.mk hh1
  have HL1:=Aside0.mk hl1
  have HCS1:=Aside0.mk hcs1
  have HNEWS:=Aside0.mk hnews
  have HW:=Aside0.mk hW1
  obtain ⟨i0,hi0,hz0,hz1,hz2⟩:=info_parts info41
  clear hW1 hh1 hl1 hcs1 hnews hcell hone
  go_region_law_o (refine step_append_room rfl (.tmp 22) (.tmp 25) 22 rfl 41 i0 4 Tryz.underlying22 hi0 hz1 g 0 i cap (by simp [Act.eval,Act.put]) A (n - (i + 1)) (cap - (i + 1)) news (by simp [Act.eval,Act.put]) s1.out hsrc.out s2.out (by omega) s3.out ?_; rw [← HW.out])
  obtain ⟨k,rfl⟩ : ∃ k,n = k + 1:=⟨n - 1,by omega⟩
  rw [show i + (k + 1 - (i + 1)) = k by omega]
  have hck : (cap = k) = False:=eq_false (by omega)
  have hk0 : (0 : Int) ≤ (k : Int):=by omega
  have hk1 : (k : Int) ≤ (k : Int) + 1:=by omega
  have hk2 : (k : Int) + 1 ≤ (cap : Int):=by omega
  have hk3 : (k : Int) ≤ (cap : Int):=by omega
  have hcl : ∀ ty,(Builtin.clear_ #[22] ty #[.slice (some ⟨g,k * 4,none⟩) 1 (cap - k)]).run Tryz.prog W1 = .ok (.tuple #[]) (W1.setCells g (k * 4) zero4):=fun ty =>
   clear_one W1 ty g (k * 4) (cap - k) (fun j hj => by rw [blk_cell HH1.out,Array.getElem?_eq_getElem (by rw [HCS1.out,HCS.out]; omega)]; rfl) (fun j hj => blk_frozen HH1.out _)
  clear hA hsrc s2 s3 mixed hz0 hz2
  go_wp2
  go_ret
  obtain ⟨cur2,hh2,hcs2,hl2⟩:=setCells_row zero4 (k * 4) W1 cur1 HH1.out (by rw [HCS1.out,HCS.out]; simp [zero4]; omega)
  have hin : inner.take (i * 4) = cur.toList.take (i * 4):=by rw [← HT.out,List.take_take,Nat.min_eq_left (by omega)]
  have hnl : news.length = (k - i) * 4:=by rw [s1.out]; omega
  have hil : (inner.take (i * 4)).length = i * 4:=by rw [List.length_take,HLEN.out]; omega
  have htk : cur2.toList.take (k * 4) = inner.take (i * 4) ++ news:=by
   have h1 : cur1.toList.take (k * 4) = inner.take (i * 4) ++ news:=by
    rw [HL1.out,Nat.zero_add,← hin,List.take_left' (by rw [List.length_append,hil,hnl]; omega)]
   rw [hl2,List.append_assoc,List.take_left' (by rw [List.length_take,Array.length_toList,HCS1.out,HCS.out]; omega),h1]
  have hreps : Reps (Rw w) 4 (l.eraseIdx i) (inner.take (i * 4) ++ news):=by
   rw [List.eraseIdx_eq_take_drop_succ,HNEWS.out]
   exact Kd.reps_append (Kd.reps_take HR.out (by rw [HN.out]; omega)) (Kd.reps_drop HR.out)
  have hlen2 : (l.eraseIdx i).length = k:=by rw [List.length_eraseIdx_of_lt (by rw [HN.out]; omega),HN.out]; rfl
  have hown : OwnRow (Rw w) 41 4 (W1.setCells g (k * 4) zero4) w.heap.size (.slice (some ⟨g,0,none⟩) k cap) (l.eraseIdx i) :=
   ⟨_,⟨by rw [List.length_append,hil,hnl,hlen2]; omega,Or.inr ⟨g,cap,cur2,by rw [hlen2],HG.out,hh2,by rw [hlen2]; omega,hcap,by rw [hcs2,HCS1.out,HCS.out],by rw [hlen2]; exact htk⟩⟩,hreps⟩
  obtain ⟨A',c',he,hc',hrr⟩:=OwnRow.reads hown
  injection he with e1 e2 e3
  rw [← e1,hlen2] at hrr
  exact ⟨_,_,rfl,by omega,hrr,below_cells HG.out _ _ _ (by rw [HW.out]; exact below_cells HG.out _ _ _ (below_drew HB.out))⟩
end Go.Proofs.YthhohbidjhcjeaaGreatDoor.H
namespace Go.Proofs.YthhohbidjhcjeaaGreatDoor.H
open Go.RowKit Go.Shelf Go.Proofs.YthhohbidjhcjeaaGreatDoorW.PrintWords Go.Proofs.YthhohbidjhcjeaaGreatDoorW.PrintLast Go.Proofs.YthhohbidjhcjeaaGreatDoorW.PrintMore
open Go.Proofs.YthhohbidjhcjeaaGreatDoor.Q Go.Proofs.YthhohbidjhcjeaaGreatDoor.Pl
set_option linter.unusedVariables false
set_option linter.unusedSimpArgs false
/-- May a patch's thing not be taken away? -/
def fullB (l : List S41) (q : ByteArray) : Bool:=l.any (fun x => insideB x.f0 q) || decide (0 < (l.getD (lowB l q) z41).f2.length) || ((l.getD (lowB l q) z41).f3.toList != [])
def removeE (l : List S41) (q : ByteArray) (k : Int) : Int:=if thereV l q k = 0 then (if fullB l q then 81 else 0) else thereV l q k
/-- What is answered of a tree's change: nothing and the error, or the new row. -/
def Ans (w : World) (l : List S41) (err : Int) (e : Ending) (w' : World) : Prop :=
 Below w.heap.size w w' ∧ (if err = 0 then ∃ A c,e = .returned (.tuple #[.slice A l.length c,.int .i64 0]) ∧ l.length ≤ c ∧ Kd.C k41 w' A l.length l else e = .returned (.tuple #[.slice none 0 0,.int .i64 err]))
set_option maxHeartbeats 4000000 in
set_option maxRecDepth 1000000 in
theorem remove_at (l : List S41) (A : Option Addr) (c : Nat) (k : Int) (q : ByteArray) (v2 v3 v4 v5 v6 : Value) (w : World) (h2 : v2.oneCell' = true) (h3 : v3.oneCell' = true) (h4 : v4.oneCell' = true) (h5 : v5.oneCell' = true) (h6 : v6.oneCell' = true)
  (hr : Kd.C k41 w A l.length l) (hl : l.length ≤ 1000000000) (hs : Srt l) (hk0 : 0 ≤ k) (hk1 : k ≤ 10) :
  Calls Tryz.prog 53 #[.slice A l.length c,.agg #[.int .i64 k,.string q,v2,v3,v4,v5,v6]] w (Ans w (l.eraseIdx (lowB l q)) (removeE l q k)):=by
 have HB : Aside0 (Below w.heap.size w (w.alloc (.cells #[.int .i64 k,.string q,v2,v3,v4,v5,v6] 25))):=⟨below_alloc (Below.refl _ _) _⟩
 have HX : Aside0 ((w.alloc (.cells #[.int .i64 k,.string q,v2,v3,v4,v5,v6] 25)).heap[w.heap.size]? = some (.cells #[.int .i64 k,.string q,v2,v3,v4,v5,v6] 25 (0,0))):=⟨blk_new _ _⟩
 have h1:=there_at l A c k q v2 v3 v4 v5 v6 _ h2 h3 h4 h5 h6 (Kd.C_below hr HB.out) hl hs hk0 hk1
 obtain ⟨b0,b1,b2,b3,b4,b5,b6⟩:=cells7 HX.out
 have HR:=Aside0.mk hr
 have HS:=Aside0.mk hs
 have HL:=Aside0.mk hl
 obtain ⟨t,ht⟩ : ∃ t,thereV l q k = t:=⟨_,rfl⟩
 have HT:=Aside0.mk ht
 rw [ht] at h1
 clear hr hs hl ht
 by_cases h0 : t = 0
 ·subst h0
  obtain ⟨x,hfx⟩ : ∃ x,findV l q = some x:=by
   have h:=HT.out
   unfold thereV at h
   cases hf : findV l q with
   | none => rw [hf] at h; simp at h
   | some x => exact ⟨x,rfl⟩
  obtain ⟨hx,hlo⟩:=(has_find HS.out q).2 x hfx
  obtain ⟨j,hj⟩ : ∃ j,lowB l q = j:=⟨_,rfl⟩
  have hfull : Aside0 (fullB l q = (l.any (fun x => insideB x.f0 q) || decide (0 < x.f2.length) || (x.f3.toList != []))):=⟨by unfold fullB; rw [hx]⟩
  have hrem : removeE l q k = if fullB l q then 81 else 0:=by unfold removeE; rw [HT.out,if_pos rfl]
  rw [hrem,hfull.out]
  rw [hj] at hx hlo h1 ⊢
  have HJ:=Aside0.mk hj
  have hj0 : (0 : Int) ≤ (j : Int):=by omega
  have hj1 : (j : Int) < (l.length : Int):=by omega
  clear hfx hrem hfull hj
  obtain ⟨r,hrr⟩ : ∃ r,l.any (fun x => insideB x.f0 q) = r:=⟨_,rfl⟩
  have RR:=Aside0.mk hrr
  rw [hrr]
  obtain ⟨err,herr⟩ : ∃ err : Int,(if (r || decide (0 < x.f2.length) || (x.f3.toList != [])) = true then (81 : Int) else 0) = err:=⟨_,rfl⟩
  rw [herr]
  have ER:=Aside0.mk herr
  clear hrr herr
  go_enter Tryz.func53,Tryz.ntmps53
  go_upto_region 4 with (go_at_call 95; refine h1.mono ?_; rintro e w1 ⟨⟨i,rfl,hi⟩,hb⟩)
  obtain rfl : i = j:=hi trivial
  have hB1:=Aside0.mk (HB.out.trans (hb.mono HB.out.size))
  have hX1:=Aside0.mk (blk_below HX.out hb)
  have h2c:=contains_at l A c q w.heap.size (.int .i64 k) v2 v3 v4 v5 v6 w1 (Kd.C_below HR.out hB1.out) HL.out hX1.out
  rw [RR.out] at h2c
  clear b0 b1 b2 b3 b4 b5 b6 HB HX h1 hb hi
  go_upto_region 5 with (go_at_call 96; refine h2c.mono ?_; rintro e w2 ⟨rfl,hb2⟩)
  have hB2:=Aside0.mk (hB1.out.trans (hb2.mono hB1.out.size))
  obtain ⟨ad,X,y,rfl,rx,c0,c1,c2,c3⟩:=ent_at (Kd.C_below HR.out hB2.out) i hlo rfl
  rw [hx] at c0 c1 c2 c3
  clear rx c0 c1 h2c hb2
  cases r with
  | true =>
   go_wp2
   go_ret2
   exact ⟨hB2.out,by have he : err = 81:=(by rw [← ER.out]; simp); rw [he]; simp⟩
  | false =>
   by_cases hz : 0 < x.f2.length
   ·have hz1 : decide (0 < x.f2.length) = true:=decide_eq_true hz
    have hz2 : decide ((0 : Int) < (x.f2.length : Int)) = true:=decide_eq_true (by omega)
    go_wp2
    go_ret2
    exact ⟨hB2.out,by have he : err = 81:=(by rw [← ER.out]; simp [hz]); rw [he]; simp⟩
   ·have hz0 : x.f2.length = 0:=by omega
    by_cases hd : x.f3.toList = []
    ·have hz1 : decide (0 < x.f2.length) = false:=decide_eq_false hz
     have hz2 : decide ((0 : Int) < (x.f2.length : Int)) = false:=decide_eq_false (by omega)
     have hd1 : (x.f3.toList != []) = false:=by simp [hd]
     have hcl:=clone_at w l (some ad) c w2 hB2.out HL.out (rows_rw HR.out hB2.out)
     have hw1 : IntKind.i64.wrap ((i : Int) + 1) = (i : Int) + 1:=wrap_small _ (by omega) (by have:=HL.out; omega)
     go_upto_region 7 with (fail)
     go_wp2_with (first | (go_at_call 73; refine hcl.mono ?_; rintro e w3 ⟨v,rfl,hrow,hb3,-⟩) | (go_at_call 99; refine (delete_at w l v i w3 hrow hb3 hlo HL.out).mono ?_; rintro e w4 ⟨A4,c4,rfl,hc4,hrr4,hb4⟩))
     go_ret2
     have hlen : (l.eraseIdx i).length = l.length - 1:=List.length_eraseIdx_of_lt hlo
     refine ⟨hb4,?_⟩
     rw [if_pos (show err = 0 by rw [← ER.out]; simp [hz,hd])]
     refine ⟨A4,c4,by rw [hlen]; rfl,by rw [hlen]; exact hc4,?_⟩
     rw [hlen]
     refine ReadsRow.imp_ hrr4 (Below.refl _ _) ?_
     rintro p cl ⟨X',x',rfl,rx'⟩
     exact k41_mk w4 p rx'.l (Kd.C_below rx'.g hb4)
    ·have hd1 : (x.f3.toList != []) = true:=by simp [hd]
     have hd2 : (x.f3.toList == []) = false:=by simp [hd]
     have hd3 : x.f3.toList.isEmpty = false:=by simp [hd]
     have hz1 : decide (0 < x.f2.length) = false:=decide_eq_false hz
     have hz2 : decide ((0 : Int) < (x.f2.length : Int)) = false:=decide_eq_false (by omega)
     go_wp2
     go_ret2
     exact ⟨hB2.out,by have he : err = 81:=(by rw [← ER.out]; simp [hd]); rw [he]; simp⟩
 ·have hrem : removeE l q k = t:=by unfold removeE; rw [HT.out,if_neg h0]
  rw [hrem]
  have hne : (t == 0) = false:=by simp [h0]
  have hne2 : (t != 0) = true:=by simp [h0]
  go_enter Tryz.func53,Tryz.ntmps53
  go_wp2_with (go_at_call 95; refine h1.mono ?_; rintro e w1 ⟨⟨i,rfl,hi⟩,hb⟩)
  go_ret2
  exact ⟨HB.out.trans (hb.mono HB.out.size),by rw [if_neg h0]; rfl⟩
end Go.Proofs.YthhohbidjhcjeaaGreatDoor.H
namespace Go.Proofs.YthhohbidjhcjeaaGreatDoor.H
open Go.RowKit Go.Proofs.YthhohbidjhcjeaaGreatDoor.Q Go.Proofs.YthhohbidjhcjeaaGreatDoor.Pl
set_option linter.unusedVariables false
set_option linter.unusedSimpArgs false
theorem find_none {l : List S41} {s : ByteArray} : findV l s = none ↔ ∀ x ∈ l,x.f0 ≠ s:=by
 unfold findV
 rw [List.find?_eq_none]
 simp
theorem find_mem {l : List S41} {s : ByteArray} {x : S41} (h : findV l s = some x) : x ∈ l ∧ x.f0 = s:=by
 unfold findV at h
 exact ⟨List.mem_of_find?_eq_some h,by simpa using List.find?_some h⟩
theorem find_append (a b : List S41) (s : ByteArray) : findV (a ++ b) s = (findV a s).or (findV b s):=by
 unfold findV
 rw [List.find?_append]
theorem find_cons (x : S41) (l : List S41) (s : ByteArray) : findV (x :: l) s = if x.f0 = s then some x else findV l s:=by
 unfold findV
 by_cases h : x.f0 = s
 ·rw [List.find?_cons_of_pos (by simpa using h),if_pos h]
 ·rw [List.find?_cons_of_neg (by simpa using h),if_neg h]
theorem srt_append {a b : List S41} : Srt (a ++ b) ↔ Srt a ∧ Srt b ∧ ∀ x ∈ a,∀ y ∈ b,ltP x.f0 y.f0 = true:=List.pairwise_append
theorem ltP_ne {a b : ByteArray} (h : ltP a b = true) : a ≠ b:=fun k => by rw [k,ltP_irrefl] at h; cases h
theorem find_of_mem : ∀ {l : List S41},Srt l → ∀ {x},x ∈ l → findV l x.f0 = some x
 | [],_,x,hx => by cases hx
 | y :: l,h,x,hx => by
  obtain ⟨h1,h2⟩:=srt_cons.mp h
  rw [find_cons]
  rcases List.mem_cons.mp hx with rfl | hx
  ·rw [if_pos rfl]
  ·rw [if_neg (ltP_ne (h1 x hx)),find_of_mem h2 hx]
theorem srt_mem_ext : ∀ {a b : List S41},Srt a → Srt b → (∀ x,x ∈ a ↔ x ∈ b) → a = b
 | [],[],_,_,_ => rfl
 | [],y :: b,_,_,h => absurd ((h y).2 (by simp)) (by simp)
 | x :: a,[],_,_,h => absurd ((h x).1 (by simp)) (by simp)
 | x :: a,y :: b,ha,hb,h => by
  obtain ⟨ha1,ha2⟩:=srt_cons.mp ha
  obtain ⟨hb1,hb2⟩:=srt_cons.mp hb
  have hxy : x = y:=by
   rcases List.mem_cons.mp ((h x).1 (by simp)) with k | k
   ·exact k
   ·rcases List.mem_cons.mp ((h y).2 (by simp)) with m | m
    ·exact m.symm
    ·have:=ltP_trans (hb1 x k) (ha1 y m)
     rw [ltP_irrefl] at this; cases this
  subst hxy
  congr 1
  refine srt_mem_ext ha2 hb2 fun z => ⟨fun hz => ?_,fun hz => ?_⟩
  ·rcases List.mem_cons.mp ((h z).1 (List.mem_cons_of_mem _ hz)) with k | k
   ·subst k; have:=ha1 z hz; rw [ltP_irrefl] at this; cases this
   ·exact k
  ·rcases List.mem_cons.mp ((h z).2 (List.mem_cons_of_mem _ hz)) with k | k
   ·subst k; have:=hb1 z hz; rw [ltP_irrefl] at this; cases this
   ·exact k
theorem mem_find {l : List S41} (h : Srt l) (x : S41) : x ∈ l ↔ findV l x.f0 = some x:=⟨fun hx => find_of_mem h hx,fun hx => (find_mem hx).1⟩
/-- Two rows by rising paths in which the same lies at each path are one. -/
theorem srt_ext {a b : List S41} (ha : Srt a) (hb : Srt b) (h : ∀ s,findV a s = findV b s) : a = b :=
 srt_mem_ext ha hb fun x => by rw [mem_find ha,mem_find hb,h]
/-! ### the place of a path -/
theorem low_cut : ∀ {l : List S41},Srt l → ∀ p,(∀ x ∈ l.take (lowB l p),ltP x.f0 p = true) ∧ (∀ x ∈ l.drop (lowB l p),ltP x.f0 p = false)
 | [],_,p => ⟨by simp,by simp⟩
 | y :: l,h,p => by
  obtain ⟨hy,hl⟩:=srt_cons.mp h
  obtain ⟨i1,i2⟩:=low_cut hl p
  by_cases hlt : ltP y.f0 p = true
  ·rw [lowB_cons,if_pos hlt]
   refine ⟨fun x hx => ?_,fun x hx => ?_⟩
   ·rw [List.take_succ_cons] at hx
    rcases List.mem_cons.mp hx with rfl | hx
    ·exact hlt
    ·exact i1 x hx
   ·rw [List.drop_succ_cons] at hx
    exact i2 x hx
  ·have h0 : ∀ x ∈ y :: l,ltP x.f0 p = false:=fun x hx => by
    rcases List.mem_cons.mp hx with rfl | hx
    ·simpa using hlt
    ·cases k : ltP x.f0 p with
     | false => rfl
     | true => exact absurd (ltP_trans (hy x hx) k) hlt
   rw [lowB_zero h0]
   exact ⟨by simp,h0⟩
theorem split_at {l : List S41} (h : Srt l) {q : ByteArray} {x : S41} (hx : findV l q = some x) : l = l.take (lowB l q) ++ x :: l.drop (lowB l q + 1):=by
 obtain ⟨h1,h2⟩:=(has_find h q).2 x hx
 have h3:=List.drop_eq_getElem_cons h2
 rw [← getD_get h2,h1] at h3
 rw [← h3,List.take_append_drop]
theorem mid_srt {a b : List S41} {x y : S41} (h : Srt (a ++ x :: b)) (e : y.f0 = x.f0) : Srt (a ++ y :: b):=by
 obtain ⟨h1,h2,h3⟩:=srt_append.mp h
 obtain ⟨h4,h5⟩:=srt_cons.mp h2
 refine srt_append.mpr ⟨h1,srt_cons.mpr ⟨fun z hz => by rw [e]; exact h4 z hz,h5⟩,fun u hu v hv => ?_⟩
 rcases List.mem_cons.mp hv with rfl | hv
 ·rw [e]; exact h3 u hu x (by simp)
 ·exact h3 u hu v (List.mem_cons_of_mem _ hv)
theorem mid_out {a b : List S41} {x : S41} (h : Srt (a ++ x :: b)) : Srt (a ++ b):=by
 obtain ⟨h1,h2,h3⟩:=srt_append.mp h
 exact srt_append.mpr ⟨h1,(srt_cons.mp h2).2,fun u hu v hv => h3 u hu v (List.mem_cons_of_mem _ hv)⟩
theorem mid_none {a b : List S41} {x : S41} (h : Srt (a ++ x :: b)) : findV a x.f0 = none ∧ findV b x.f0 = none:=by
 obtain ⟨h1,h2,h3⟩:=srt_append.mp h
 exact ⟨find_none.mpr fun u hu => ltP_ne (h3 u hu x (by simp)),find_none.mpr fun u hu => (ltP_ne ((srt_cons.mp h2).1 u hu)).symm⟩
theorem mid_find {a b : List S41} {x : S41} (h : Srt (a ++ x :: b)) (s : ByteArray) : findV (a ++ x :: b) s = if s = x.f0 then some x else findV (a ++ b) s:=by
 rw [find_append,find_cons,find_append]
 by_cases hs : s = x.f0
 ·subst hs
  rw [if_pos rfl,if_pos rfl,(mid_none h).1]
  rfl
 ·rw [if_neg hs,if_neg (fun k => hs k.symm)]
/-! ### a row with an entry more, one fewer, another one -/
def insL (l : List S41) (x : S41) : List S41:=l.take (lowB l x.f0) ++ x :: l.drop (lowB l x.f0)
def delL (l : List S41) (q : ByteArray) : List S41:=l.eraseIdx (lowB l q)
def setL (l : List S41) (q : ByteArray) (y : S41) : List S41:=l.set (lowB l q) y
theorem ins_srt {l : List S41} (h : Srt l) {x : S41} (hx : findV l x.f0 = none) : Srt (insL l x):=by
 unfold insL
 obtain ⟨c1,c2⟩:=low_cut h x.f0
 rw [← List.take_append_drop (lowB l x.f0) l] at h
 obtain ⟨h1,h2,h3⟩:=srt_append.mp h
 refine srt_append.mpr ⟨h1,srt_cons.mpr ⟨fun y hy => ?_,h2⟩,fun u hu v hv => ?_⟩
 ·exact ltP_total (c2 y hy) (find_none.mp hx y (List.mem_of_mem_drop hy))
 ·rcases List.mem_cons.mp hv with rfl | hv
  ·exact c1 u hu
  ·exact h3 u hu v hv
theorem ins_find {l : List S41} (h : Srt l) {x : S41} (hx : findV l x.f0 = none) (s : ByteArray) : findV (insL l x) s = if s = x.f0 then some x else findV l s:=by
 have:=mid_find (ins_srt h hx) s
 unfold insL
 rw [this,List.take_append_drop]
theorem ins_len (l : List S41) (x : S41) : (insL l x).length = l.length + 1:=by
 unfold insL
 have:=lowB_le l x.f0
 rw [List.length_append,List.length_cons,List.length_take,List.length_drop]
 omega
theorem ins_mem {l : List S41} {x z : S41} : z ∈ insL l x ↔ z = x ∨ z ∈ l:=by
 unfold insL
 rw [List.mem_append,List.mem_cons]
 conv => rhs; rw [← List.take_append_drop (lowB l x.f0) l,List.mem_append]
 constructor
 ·rintro (h | h | h)
  ·exact .inr (.inl h)
  ·exact .inl h
  ·exact .inr (.inr h)
 ·rintro (h | h | h)
  ·exact .inr (.inl h)
  ·exact .inl h
  ·exact .inr (.inr h)
theorem del_eq {l : List S41} {q : ByteArray} : delL l q = l.take (lowB l q) ++ l.drop (lowB l q + 1):=List.eraseIdx_eq_take_drop_succ ..
theorem del_srt {l : List S41} (h : Srt l) (q : ByteArray) : Srt (delL l q):=by
 rw [del_eq]
 rw [← List.take_append_drop (lowB l q) l] at h
 obtain ⟨h1,h2,h3⟩:=srt_append.mp h
 have hsub : ∀ x ∈ l.drop (lowB l q + 1),x ∈ l.drop (lowB l q):=fun x hx => by
  rw [← List.drop_drop] at hx
  exact List.mem_of_mem_drop hx
 refine srt_append.mpr ⟨h1,?_,fun u hu v hv => h3 u hu v (hsub v hv)⟩
 rw [← List.drop_drop]
 exact List.Pairwise.drop h2
theorem del_find {l : List S41} (h : Srt l) {q : ByteArray} {x : S41} (hx : findV l q = some x) (s : ByteArray) : findV (delL l q) s = if s = q then none else findV l s:=by
 have hq:=(find_mem hx).2
 have e:=split_at h hx
 obtain ⟨a,ha⟩ : ∃ a,l.take (lowB l q) = a:=⟨_,rfl⟩
 obtain ⟨b,hb⟩ : ∃ b,l.drop (lowB l q + 1) = b:=⟨_,rfl⟩
 rw [del_eq]
 rw [ha,hb] at e ⊢
 subst hq
 rw [e] at h
 by_cases hs : s = x.f0
 ·subst hs
  rw [if_pos rfl,find_append,(mid_none h).1,(mid_none h).2]
  rfl
 ·rw [if_neg hs,e,mid_find h,if_neg hs]
theorem del_len {l : List S41} (h : Srt l) {q : ByteArray} {x : S41} (hx : findV l q = some x) : (delL l q).length + 1 = l.length:=by
 have:=((has_find h q).2 x hx).2
 unfold delL
 rw [List.length_eraseIdx_of_lt this]
 omega
theorem set_eq {l : List S41} (h : Srt l) {q : ByteArray} {x : S41} (hx : findV l q = some x) (y : S41) : setL l q y = l.take (lowB l q) ++ y :: l.drop (lowB l q + 1):=by
 unfold setL
 rw [List.set_eq_take_append_cons_drop,if_pos ((has_find h q).2 x hx).2]
theorem set_srt {l : List S41} (h : Srt l) {q : ByteArray} {x : S41} (hx : findV l q = some x) {y : S41} (e : y.f0 = q) : Srt (setL l q y):=by
 rw [set_eq h hx]
 have hs:=split_at h hx
 rw [hs] at h
 exact mid_srt h (e.trans (find_mem hx).2.symm)
theorem set_find {l : List S41} (h : Srt l) {q : ByteArray} {x : S41} (hx : findV l q = some x) {y : S41} (e : y.f0 = q) (s : ByteArray) : findV (setL l q y) s = if s = q then some y else findV l s:=by
 have hy:=set_srt h hx e
 have hs:=split_at h hx
 rw [set_eq h hx] at hy ⊢
 rw [mid_find hy,e]
 by_cases k : s = q
 ·rw [if_pos k,if_pos k]
 ·rw [if_neg k,if_neg k]
  rw [hs] at h
  conv => rhs; rw [hs]
  rw [mid_find h,if_neg (by rw [(find_mem hx).2]; exact k)]
theorem set_len (l : List S41) (q : ByteArray) (y : S41) : (setL l q y).length = l.length:=List.length_set ..
/-! ### sorting -/
def sortV (l : List S41) : List S41:=l.foldr (fun x acc => insL acc x) []
/-- No two entries of one path. -/
def Dis (l : List S41) : Prop:=l.Pairwise (fun x y => x.f0 ≠ y.f0)
theorem sort_mem : ∀ {l : List S41} {z : S41},z ∈ sortV l ↔ z ∈ l
 | [],z => by simp [sortV]
 | x :: l,z => by
  have : sortV (x :: l) = insL (sortV l) x:=rfl
  rw [this,ins_mem,sort_mem,List.mem_cons]
theorem sort_srt : ∀ {l : List S41},Dis l → Srt (sortV l)
 | [],_ => List.Pairwise.nil
 | x :: l,h => by
  obtain ⟨h1,h2⟩:=List.pairwise_cons.mp h
  exact ins_srt (sort_srt h2) (find_none.mpr fun y hy => (h1 y (sort_mem.mp hy)).symm)
theorem sort_len : ∀ (l : List S41),(sortV l).length = l.length
 | [] => rfl
 | x :: l => by
  have : sortV (x :: l) = insL (sortV l) x:=rfl
  rw [this,ins_len,sort_len,List.length_cons]
/-- A sorted row of the same entries is the sorted one. -/
theorem sort_uniq {l k : List S41} (hd : Dis l) (hk : Srt k) (hm : ∀ z,z ∈ k ↔ z ∈ l) : k = sortV l:=srt_mem_ext hk (sort_srt hd) fun z => by rw [hm,sort_mem]
theorem find_dis : ∀ {l : List S41},Dis l → ∀ {x},x ∈ l → findV l x.f0 = some x
 | [],_,x,hx => by cases hx
 | y :: l,h,x,hx => by
  obtain ⟨h1,h2⟩:=List.pairwise_cons.mp h
  rw [find_cons]
  rcases List.mem_cons.mp hx with rfl | hx
  ·rw [if_pos rfl]
  ·rw [if_neg (h1 x hx),find_dis h2 hx]
theorem sort_find {l : List S41} (hd : Dis l) (s : ByteArray) : findV (sortV l) s = findV l s:=by
 cases h : findV l s with
 | none => exact find_none.mpr fun x hx => find_none.mp h x (sort_mem.mp hx)
 | some x =>
  obtain ⟨h1,h2⟩:=find_mem h
  subst h2
  exact find_of_mem (sort_srt hd) (sort_mem.mpr h1)
end Go.Proofs.YthhohbidjhcjeaaGreatDoor.H
namespace Go.Proofs.YthhohbidjhcjeaaGreatDoor.H
open Go.RowKit Go.Proofs.YthhohbidjhcjeaaGreatDoor.Q Go.Proofs.YthhohbidjhcjeaaGreatDoor.Pl
set_option linter.unusedVariables false
set_option linter.unusedSimpArgs false
/-! ### texts in texts -/
/-- What lies behind a place in a path. -/
def Below47 (r : List UInt8) : Prop:=r = [] ∨ ∃ t,r = 47 :: t
theorem within_iff (a b : ByteArray) : withinB a b = true ↔ ∃ r : List UInt8,a.data.toList = b.data.toList ++ r ∧ Below47 r:=by
 have ex1 : (a.extract 0 b.size).toList = a.data.toList.take b.size:=by rw [toList_data,extract_data,List.drop_zero]
 have ex2 : (a.extract b.size a.size).data.toList = a.data.toList.drop b.size:=by
  rw [extract_data,List.take_of_length_le (by rw [dlen]; exact Nat.le_refl _)]
 unfold withinB
 rw [ex1,toList_data b,toList_data (a.extract _ _),ex2]
 constructor
 ·intro h
  split at h
  ·rename_i h1
   refine ⟨a.data.toList.drop b.size,?_,?_⟩
   ·have:=List.take_append_drop b.size a.data.toList
    rw [h1.1] at this
    exact this.symm
   ·split at h
    ·rename_i h2
     exact .inl h2
    ·rename_i h2
     right
     obtain ⟨x,t,hxt⟩:=List.exists_cons_of_ne_nil h2
     have hpos : 0 < (a.extract b.size a.size).size:=by
      rw [← dlen,ex2,hxt]
      simp
     have hb:=bt_get (a.extract b.size a.size) 0 hpos
     have h3 : (a.extract b.size a.size).data.toList[0]? = some x:=by rw [ex2,hxt]; rfl
     have h4:=List.getElem?_eq_getElem (l:=(a.extract b.size a.size).data.toList) (i:=0) (by rw [dlen]; exact hpos)
     have h5:=Option.some.inj (h4.symm.trans h3)
     rw [h5] at hb
     rw [show ((0 : Nat) : Int) = 0 from rfl] at hb
     rw [hb] at h
     have h6 : (x.toNat : Int) = 47:=by simpa using h
     have h7 : x.toNat = (47 : UInt8).toNat:=by
      have : x.toNat = 47:=by omega
      rw [this]
      rfl
     exact ⟨t,by rw [hxt,UInt8.toNat_inj.1 h7]⟩
  ·cases h
 ·rintro ⟨r,hr,ho⟩
  have hl : b.data.toList.length = b.size:=dlen b
  have hsz : b.size ≤ a.size:=by
   have:=congrArg List.length hr
   rw [dlen,List.length_append,hl] at this
   omega
  have h1 : a.data.toList.take b.size = b.data.toList:=by rw [hr]; exact List.take_left' hl
  have h2 : a.data.toList.drop b.size = r:=by rw [hr]; exact List.drop_left' hl
  rw [if_pos ⟨h1,hsz⟩,h2]
  rcases ho with rfl | ⟨t,rfl⟩
  ·rw [if_pos rfl]
  ·rw [if_neg (by simp)]
   have hpos : 0 < (a.extract b.size a.size).size:=by
    rw [← dlen,ex2,h2]
    simp
   have hb:=bt_get (a.extract b.size a.size) 0 hpos
   have h3 : (a.extract b.size a.size).data.toList[0]? = some 47:=by rw [ex2,h2]; rfl
   have h4:=List.getElem?_eq_getElem (l:=(a.extract b.size a.size).data.toList) (i:=0) (by rw [dlen]; exact hpos)
   have h5:=Option.some.inj (h4.symm.trans h3)
   rw [h5] at hb
   rw [show ((0 : Nat) : Int) = 0 from rfl] at hb
   rw [hb]
   rfl
theorem within_refl (a : ByteArray) : withinB a a = true:=(within_iff a a).2 ⟨[],by simp,.inl rfl⟩
theorem apart_self (a : ByteArray) : apartB a a = false:=by unfold apartB; rw [within_refl]; rfl
theorem apart_within {a b : ByteArray} (h : apartB a b = true) : withinB a b = false ∧ withinB b a = false:=by
 unfold apartB at h
 cases h1 : withinB a b <;> cases h2 : withinB b a <;> simp_all
/-- A path carried from one place to another one. -/
def mv (s fr dst : ByteArray) : ByteArray:=dst ++ s.extract fr.size s.size
theorem mv_data {s fr : ByteArray} (dst : ByteArray) {r : List UInt8} (h : s.data.toList = fr.data.toList ++ r) : (mv s fr dst).data.toList = dst.data.toList ++ r:=by
 unfold mv
 rw [ByteArray.toList_data_append,extract_data,List.take_of_length_le (by rw [dlen]; exact Nat.le_refl _),h,List.drop_left' (dlen fr)]
theorem mv_within {s fr : ByteArray} (dst : ByteArray) (h : withinB s fr = true) : withinB (mv s fr dst) dst = true:=by
 obtain ⟨r,hr,ho⟩:=(within_iff _ _).1 h
 exact (within_iff _ _).2 ⟨r,mv_data dst hr,ho⟩
theorem mv_back {s fr : ByteArray} (dst : ByteArray) (h : withinB s fr = true) : mv (mv s fr dst) dst fr = s:=by
 obtain ⟨r,hr,ho⟩:=(within_iff _ _).1 h
 exact data_inj (by rw [mv_data fr (mv_data dst hr),hr])
/-! ### parents -/
theorem get_bang (s : ByteArray) (i : Nat) (h : i < s.size) : s.data[i]! = s.data.toList[i]'(by rw [dlen]; exact h):=by
 have h' : i < s.data.size:=h
 rw [getElem!_pos s.data i h',Array.getElem_toList]
theorem u8_47 {c : UInt8} (h : (c.toNat : Int) = 47) : c = 47:=by
 have h1 : c.toNat = (47 : UInt8).toNat:=by
  have h2 : c.toNat = 47:=by omega
  rw [h2]; rfl
 exact UInt8.toNat_inj.mp h1
theorem parent_cases (p : ByteArray) : (parentV p = none ∧ (47 : UInt8) ∉ p.data.toList) ∨ ∃ q t,parentV p = some q ∧ p.data.toList = q.data.toList ++ 47 :: t ∧ (47 : UInt8) ∉ t:=by
 unfold parentV
 rcases Lib.lastIndexByte_spec p 47 with ⟨he,hn⟩ | ⟨k,hk,he,hc,hn⟩
 ·left
  rw [he]
  refine ⟨rfl,fun hm => ?_⟩
  obtain ⟨j,hj,e⟩:=List.getElem_of_mem hm
  have hj' : j < p.size:=by rw [dlen] at hj; exact hj
  refine hn j hj' ?_
  rw [get_bang p j hj',e]
  rfl
 ·right
  have hl : k < p.data.toList.length:=by rw [dlen]; exact hk
  refine ⟨p.extract 0 k,p.data.toList.drop (k + 1),by rw [he,if_neg (by omega),Int.toNat_natCast],?_,fun hm => ?_⟩
  ·rw [extract_data,List.drop_zero]
   have h1:=List.drop_eq_getElem_cons hl
   rw [get_bang p k hk] at hc
   rw [u8_47 hc] at h1
   rw [← h1,List.take_append_drop]
  ·obtain ⟨j,hj,e⟩:=List.getElem_of_mem hm
   rw [List.length_drop] at hj
   rw [List.getElem_drop] at e
   have hj' : k + 1 + j < p.size:=by rw [← dlen]; omega
   refine hn (k + 1 + j) (by omega) hj' ?_
   rw [get_bang p (k + 1 + j) hj',e]
   rfl
theorem parent_eq {p q : ByteArray} {t : List UInt8} (h : p.data.toList = q.data.toList ++ 47 :: t) (ht : (47 : UInt8) ∉ t) : parentV p = some q:=by
 rcases parent_cases p with ⟨_,hn⟩ | ⟨q',t',e,h',ht'⟩
 ·exact absurd (by rw [h]; simp) hn
 ·rw [e]
  congr 1
  refine data_inj ?_
  rw [h] at h'
  rcases List.append_eq_append_iff.mp h' with ⟨a,h1,h2⟩ | ⟨a,h1,h2⟩
  ·cases a with
   | nil => rw [h1]; simp
   | cons c a =>
    injection h2 with h3 h4
    exact absurd (by rw [h4]; simp) ht
  ·cases a with
   | nil => rw [h1]; simp
   | cons c a =>
    injection h2 with h3 h4
    exact absurd (by rw [h4]; simp) ht'
theorem cb_prefix : ∀ (a : List UInt8) (c : UInt8) (t : List UInt8),Lib.compareBytes a (a ++ c :: t) < 0
 | [],c,t => by simp [Lib.compareBytes]
 | x :: a,c,t => by
  have:=cb_prefix a c t
  simp [Lib.compareBytes,this]
theorem lt_prefix {p q : ByteArray} {c : UInt8} {t : List UInt8} (h : p.data.toList = q.data.toList ++ c :: t) : ltP q p = true:=by
 refine (cmp_lt _ _).mp ?_
 unfold cmpP
 rw [h]
 exact cb_prefix _ _ _
theorem parent_lt {p q : ByteArray} (h : parentV p = some q) : ltP q p = true:=by
 rcases parent_cases p with ⟨e,_⟩ | ⟨q',t,e,h',_⟩
 ·rw [e] at h; cases h
 ·rw [e] at h
  rw [← Option.some.inj h]
  exact lt_prefix h'
theorem parent_within {p q : ByteArray} (h : parentV p = some q) : withinB p q = true:=by
 rcases parent_cases p with ⟨e,_⟩ | ⟨q',t,e,h',_⟩
 ·rw [e] at h; cases h
 ·rw [e] at h
  rw [← Option.some.inj h]
  exact (within_iff _ _).mpr ⟨47 :: t,h',.inr ⟨t,rfl⟩⟩
/-- What lies within a path, and is not it, has a parent that lies within it. -/
theorem within_parent {x q : ByteArray} (h : withinB x q = true) (hne : x ≠ q) : ∃ p,parentV x = some p ∧ withinB p q = true:=by
 obtain ⟨r,hr,ho⟩:=(within_iff _ _).mp h
 rcases ho with rfl | ⟨t,rfl⟩
 ·exact absurd (data_inj (by simpa using hr)) hne
 ·rcases parent_cases x with ⟨_,hn⟩ | ⟨p,u,e,h',hu⟩
  ·exact absurd (by rw [hr]; simp) hn
  ·refine ⟨p,e,(within_iff _ _).mpr ?_⟩
   rw [hr] at h'
   rcases List.append_eq_append_iff.mp h' with ⟨a,h1,h2⟩ | ⟨a,h1,h2⟩
   ·refine ⟨a,h1,?_⟩
    cases a with
    | nil => exact .inl rfl
    | cons c a =>
     injection h2 with h3 h4
     exact .inr ⟨a,by rw [h3]⟩
   ·cases a with
    | nil => exact ⟨[],by rw [h1]; simp,.inl rfl⟩
    | cons c a =>
     injection h2 with h3 h4
     exact absurd (by rw [h4]; simp) hu
theorem within_trans {a b c : ByteArray} (h : withinB a b = true) (k : withinB b c = true) : withinB a c = true:=by
 obtain ⟨r,hr,ho⟩:=(within_iff _ _).mp h
 obtain ⟨t,ht,hp⟩:=(within_iff _ _).mp k
 refine (within_iff _ _).mpr ⟨t ++ r,by rw [hr,ht,List.append_assoc],?_⟩
 rcases hp with rfl | ⟨u,rfl⟩
 ·simpa using ho
 ·exact .inr ⟨u ++ r,rfl⟩
theorem within_size {a b : ByteArray} (h : withinB a b = true) : b.size ≤ a.size:=by
 obtain ⟨r,hr,ho⟩:=(within_iff _ _).mp h
 have:=congrArg List.length hr
 rw [List.length_append,dlen,dlen] at this
 omega
theorem within_antisymm {a b : ByteArray} (h : withinB a b = true) (k : withinB b a = true) : a = b:=by
 obtain ⟨r,hr,ho⟩:=(within_iff _ _).mp h
 have h1:=within_size h
 have h2:=within_size k
 have:=congrArg List.length hr
 rw [List.length_append,dlen,dlen] at this
 have : r = []:=List.length_eq_zero_iff.mp (by omega)
 subst this
 exact data_inj (by simpa using hr)
/-- What a path lies within lie within one another. -/
theorem within_line {a b c : ByteArray} (h : withinB a b = true) (k : withinB a c = true) : withinB b c = true ∨ withinB c b = true:=by
 obtain ⟨r,hr,ho⟩:=(within_iff _ _).mp h
 obtain ⟨t,ht,hp⟩:=(within_iff _ _).mp k
 rw [hr] at ht
 rcases List.append_eq_append_iff.mp ht with ⟨u,h1,h2⟩ | ⟨u,h1,h2⟩
 ·right
  refine (within_iff _ _).mpr ⟨u,h1,?_⟩
  cases u with
  | nil => exact .inl rfl
  | cons c u =>
   rcases ho with rfl | ⟨v,rfl⟩
   ·cases h2
   ·injection h2 with h3 h4
    exact .inr ⟨u,by rw [h3]⟩
 ·left
  refine (within_iff _ _).mpr ⟨u,h1,?_⟩
  cases u with
  | nil => exact .inl rfl
  | cons c u =>
   rcases hp with rfl | ⟨v,rfl⟩
   ·cases h2
   ·injection h2 with h3 h4
    exact .inr ⟨u,by rw [h3]⟩
theorem inside_iff (x q : ByteArray) : insideB x q = true ↔ x ≠ q ∧ withinB x q = true:=by
 unfold insideB
 by_cases h : x = q
 ·simp [h]
 ·simp [h]
/-! ### trees -/
/-- The row is a tree. -/
structure Tr (l : List S41) : Prop where
 n : l.length ≤ 1024
 s : Srt l
 t : ∀ x ∈ l,thingB x = true
 p : ∀ x ∈ l,∀ q,parentV x.f0 = some q → ∃ y ∈ l,y.f0 = q ∧ y.f1 = 1
theorem dirB_iff (l : List S41) (p : ByteArray) : dirB l p = true ↔ ∃ y ∈ l,y.f0 = p ∧ y.f1 = 1:=by
 unfold dirB
 rw [List.any_eq_true]
 simp
theorem steps_all : ∀ (r l : List S41),stepsB l r = true → ∀ x ∈ r,thingB x = true ∧ ∀ q,parentV x.f0 = some q → ∃ y ∈ l ++ r,y.f0 = q ∧ y.f1 = 1
 | [],l,_,x,hx => by cases hx
 | x :: r,l,h,z,hz => by
  simp only [stepsB,Bool.and_eq_true] at h
  obtain ⟨hn,hr⟩:=h
  rcases List.mem_cons.mp hz with rfl | hz
  ·unfold nextB at hn
   simp only [Bool.and_eq_true] at hn
   refine ⟨hn.1.1,fun q hq => ?_⟩
   have h2:=hn.2
   rw [hq] at h2
   obtain ⟨y,hy,e⟩:=(dirB_iff l q).mp h2
   exact ⟨y,List.mem_append_left _ hy,e⟩
  ·have:=steps_all r (l ++ [x]) hr z hz
   rwa [List.append_assoc] at this
theorem steps_of : ∀ (r l : List S41),Srt (l ++ r) → (∀ x ∈ r,thingB x = true) → (∀ x ∈ r,∀ q,parentV x.f0 = some q → ∃ y ∈ l ++ r,y.f0 = q ∧ y.f1 = 1) → stepsB l r = true
 | [],l,_,_,_ => rfl
 | x :: r,l,hs,ht,hp => by
  have hs' : Srt ((l ++ [x]) ++ r):=by rw [List.append_assoc]; exact hs
  obtain ⟨h1,h2,h3⟩:=srt_append.mp hs
  obtain ⟨h4,h5⟩:=srt_cons.mp h2
  simp only [stepsB,Bool.and_eq_true]
  refine ⟨?_,steps_of r (l ++ [x]) hs' (fun z hz => ht z (List.mem_cons_of_mem _ hz)) (fun z hz q hq => ?_)⟩
  ·unfold nextB
   simp only [Bool.and_eq_true]
   refine ⟨⟨ht x (by simp),?_⟩,?_⟩
   ·cases hg : l.getLast? with
    | none => rfl
    | some y => exact h3 y (List.mem_of_getLast? hg) x (by simp)
   ·cases hq : parentV x.f0 with
    | none => rfl
    | some q =>
     obtain ⟨y,hy,e1,e2⟩:=hp x (by simp) q hq
     refine (dirB_iff l q).mpr ?_
     have hlt:=parent_lt hq
     rw [← e1] at hlt
     rcases List.mem_append.mp hy with k | k
     ·exact ⟨y,k,e1,e2⟩
     ·rcases List.mem_cons.mp k with rfl | k
      ·rw [ltP_irrefl] at hlt; cases hlt
      ·have:=ltP_trans hlt (h4 y k)
       rw [ltP_irrefl] at this; cases this
  ·have:=hp z (List.mem_cons_of_mem _ hz) q hq
   rwa [List.append_assoc]
theorem tree_iff {l : List S41} : treeB l = true ↔ Tr l:=by
 unfold treeB
 rw [Bool.and_eq_true]
 constructor
 ·rintro ⟨h1,h2⟩
  have hall:=steps_all l [] h2
  exact ⟨of_decide_eq_true h1,by simpa using steps_srt l [] (by simp [Srt]) h2,fun x hx => (hall x hx).1,fun x hx => by simpa using (hall x hx).2⟩
 ·rintro ⟨h1,h2,h3,h4⟩
  exact ⟨decide_eq_true h1,steps_of l [] (by simpa using h2) h3 (fun x hx q hq => by simpa using h4 x hx q hq)⟩
/-- What lies within a path has a directory there, in a tree. -/
theorem Tr.above {l : List S41} (h : Tr l) : ∀ (n : Nat) (x : S41),x ∈ l → x.f0.size ≤ n → ∀ q,withinB x.f0 q = true → x.f0 ≠ q → ∃ y ∈ l,y.f0 = q ∧ y.f1 = 1
 | 0,x,hx,hn,q,hw,hne => by
  obtain ⟨p,hp,_⟩:=within_parent hw hne
  have:=parentV_size hp
  omega
 | n + 1,x,hx,hn,q,hw,hne => by
  obtain ⟨p,hp,hpw⟩:=within_parent hw hne
  have hsz:=parentV_size hp
  obtain ⟨y,hy,e1,e2⟩:=h.p x hx p hp
  by_cases k : p = q
  ·exact ⟨y,hy,e1.trans k,e2⟩
  ·rw [← e1] at hpw k hsz
   exact h.above n y hy (by omega) q hpw k
theorem Tr.none_within {l : List S41} (h : Tr l) {q : ByteArray} (hq : findV l q = none) : ∀ x ∈ l,withinB x.f0 q = false:=by
 intro x hx
 cases hw : withinB x.f0 q with
 | false => rfl
 | true =>
  by_cases k : x.f0 = q
  ·exact absurd k (find_none.mp hq x hx)
  ·obtain ⟨y,hy,e,_⟩:=h.above x.f0.size x hx (Nat.le_refl _) q hw k
   exact absurd e (find_none.mp hq y hy)
theorem Tr.find {l : List S41} (h : Tr l) {q : ByteArray} : (∃ y ∈ l,y.f0 = q ∧ y.f1 = 1) ↔ ∃ y,findV l q = some y ∧ y.f1 = 1:=by
 constructor
 ·rintro ⟨y,hy,rfl,e⟩
  exact ⟨y,find_of_mem h.s hy,e⟩
 ·rintro ⟨y,hy,e⟩
  exact ⟨y,(find_mem hy).1,(find_mem hy).2,e⟩
/-- Trees, said by what lies where. -/
theorem Tr.of {l : List S41} (n : l.length ≤ 1024) (s : Srt l) (t : ∀ q x,findV l q = some x → thingB x = true) (p : ∀ q x u,findV l q = some x → parentV q = some u → ∃ y,findV l u = some y ∧ y.f1 = 1) : Tr l :=
 ⟨n,s,fun x hx => t _ x (find_of_mem s hx),fun x hx q hq => by
  obtain ⟨y,hy,e⟩:=p _ x q (find_of_mem s hx) hq
  exact ⟨y,(find_mem hy).1,(find_mem hy).2,e⟩⟩
theorem Tr.thing {l : List S41} (h : Tr l) {q : ByteArray} {x : S41} (hx : findV l q = some x) : thingB x = true:=h.t x (find_mem hx).1
theorem Tr.parent {l : List S41} (h : Tr l) {q u : ByteArray} {x : S41} (hx : findV l q = some x) (hu : parentV q = some u) : ∃ y,findV l u = some y ∧ y.f1 = 1 :=
 h.find.mp (h.p x (find_mem hx).1 u (by rw [(find_mem hx).2]; exact hu))
end Go.Proofs.YthhohbidjhcjeaaGreatDoor.H
namespace Go.Proofs.YthhohbidjhcjeaaGreatDoor.H
open Go.RowKit Go.Proofs.YthhohbidjhcjeaaGreatDoor.Q Go.Proofs.YthhohbidjhcjeaaGreatDoor.Pl
set_option linter.unusedVariables false
set_option linter.unusedSimpArgs false
/-- Nothing. -/
def e0 : ByteArray:=⟨#[]⟩
/-- The thing that a patch adds. -/
def newE (p : S25) : S41:=⟨p.f1,kindV p.f0,[],e0⟩
/-- A hunk done on lines. -/
def hunkV (l : List ByteArray) (at_ : Int) (old new : List ByteArray) : Option (List ByteArray) :=
 if 0 ≤ at_ ∧ at_.toNat + old.length ≤ l.length ∧ (l.drop at_.toNat).take old.length = old then some (l.take at_.toNat ++ new ++ l.drop (at_.toNat + old.length)) else none
/-- A text's tokens, and what stands between: runs of bytes that are ones of tokens, or are not. -/
def inU (c : UInt8) : Bool:=inB (c.toNat : Int)
def runs : List UInt8 → List (List UInt8)
 | [] => []
 | c :: s => match runs s with
  | (d :: r) :: rest => if inU c = inU d then (c :: d :: r) :: rest else [c] :: (d :: r) :: rest
  | _ => [[c]]
def piecesV (s : ByteArray) : List ByteArray:=(runs s.data.toList).map (fun r => ⟨r.toArray⟩)
/-- Each piece that is one becomes another one. -/
def replV (s fr to_ : ByteArray) : ByteArray:=⟨((runs s.data.toList).flatMap (fun r => if r = fr.data.toList then to_.data.toList else r)).toArray⟩
def tokV (l : List ByteArray) (fr to_ : ByteArray) : Option (List ByteArray) :=
 if l.any (fun s => (runs s.data.toList).contains to_.data.toList) then none else some (l.map (fun s => replV s fr to_))
/-- A thing changed. -/
def changeV (x : S41) (p : S25) : Option S41 :=
 if p.f0 = 7 then (hunkV x.f2 p.f4 p.f5 p.f6).map (fun l => { x with f2:=l })
 else if p.f0 = 8 then (tokV x.f2 p.f3 p.f2).map (fun l => { x with f2:=l })
 else if x.f3 = p.f3 then some { x with f3:=p.f2 } else none
def addE (l : List S41) (p : S25) : Int:=if roomV l p.f1 = 0 then (if l.length = 1024 then 2 else 0) else roomV l p.f1
def thingAt (l : List S41) (q : ByteArray) : S41:=(findV l q).getD z41
def changeE (l : List S41) (p : S25) : Int:=if thereV l p.f1 p.f0 = 0 then (if (changeV (thingAt l p.f1) p).isSome then 0 else 81) else thereV l p.f1 p.f0
def changeL (l : List S41) (p : S25) : List S41:=setL l p.f1 ((changeV (thingAt l p.f1) p).getD z41)
/-- A path behind a move. -/
def mvP (s fr to_ : ByteArray) : ByteArray:=if withinB s fr then mv s fr to_ else s
def mvX (fr to_ : ByteArray) (x : S41) : S41:={ x with f0:=mvP x.f0 fr to_ }
def moveE (l : List S41) (p : S25) : Int :=
 if (findV l p.f1).isSome then (if roomV l p.f2 = 0 then (if l.all (fun x => rightB (mvP x.f0 p.f1 p.f2)) then 0 else 41) else roomV l p.f2) else 72
def moveL (l : List S41) (p : S25) : List S41:=sortV (l.map (mvX p.f1 p.f2))
/-- What a patch makes of things: the error, and what they are then. -/
def doE (l : List S41) (p : S25) : Int :=
 if p.f0 = 10 then moveE l p else if 7 ≤ p.f0 then changeE l p else if p.f0 = 1 ∨ p.f0 = 3 ∨ p.f0 = 5 then addE l p else removeE l p.f1 p.f0
def doL (l : List S41) (p : S25) : List S41 :=
 if p.f0 = 10 then moveL l p else if 7 ≤ p.f0 then changeL l p else if p.f0 = 1 ∨ p.f0 = 3 ∨ p.f0 = 5 then insL l (newE p) else delL l p.f1
def applyE (l : List S41) (p : S25) : Int:=if treeB l && primB p then doE l p else 1
/-- .. of several, one behind the other: the row, the error, and where. -/
def allV : List S41 → List S25 → Nat → List S41 × Int × Nat
 | l,[],_ => (l,0,0)
 | l,p :: ps,i => if applyE l p = 0 then allV (doL l p) ps (i + 1) else ([],applyE l p,i)
def allE (l : List S41) (ps : List S25) : List S41 × Int × Nat:=if treeB l then allV l ps 0 else ([],1,0)
/-! ### when it can be done -/
/-- Is there a directory for a path? -/
def Up (l : List S41) (q : ByteArray) : Prop:=∀ u,parentV q = some u → ∃ y,findV l u = some y ∧ y.f1 = 1
theorem room_zero {l : List S41} {q : ByteArray} : roomV l q = 0 ↔ findV l q = none ∧ Up l q:=by
 unfold roomV Up
 cases hf : findV l q with
 | some x => simp
 | none =>
  cases hp : parentV q with
  | none => simp
  | some u =>
   cases hg : findV l u with
   | none => simp [hg]
   | some y =>
    by_cases h1 : y.f1 = 1
    ·simp [hg,h1]
    ·simp [hg,h1]
theorem room_vals (l : List S41) (q : ByteArray) : roomV l q = 0 ∨ roomV l q = 71 ∨ roomV l q = 72 ∨ roomV l q = 73:=by
 unfold roomV
 repeat' split
 all_goals simp
theorem there_zero {l : List S41} {q : ByteArray} {k : Int} : thereV l q k = 0 ↔ ∃ x,findV l q = some x ∧ x.f1 = kindV k:=by
 unfold thereV
 cases hf : findV l q with
 | none => simp
 | some x =>
  by_cases h : x.f1 = kindV k
  ·simp [h]
  ·simp [h]
theorem add_zero {l : List S41} {p : S25} : addE l p = 0 ↔ findV l p.f1 = none ∧ Up l p.f1 ∧ l.length ≠ 1024:=by
 unfold addE
 by_cases h : roomV l p.f1 = 0
 ·have h':=room_zero.mp h
  by_cases k : l.length = 1024
  ·simp [h,k]
  ·simp [h,k,h'.1,h'.2]
 ·rw [if_neg h]
  constructor
  ·intro k; exact absurd k h
  ·rintro ⟨a,b,_⟩; exact absurd (room_zero.mpr ⟨a,b⟩) h
theorem toList_nil {a : ByteArray} (h : a.toList = []) : a = e0:=data_inj (by rw [← toList_data,h]; rfl)
theorem remove_zero {l : List S41} (hs : Srt l) {p : S25} : removeE l p.f1 p.f0 = 0 ↔ findV l p.f1 = some (newE p) ∧ ∀ x ∈ l,withinB x.f0 p.f1 = true → x.f0 = p.f1:=by
 unfold removeE fullB
 by_cases ht : thereV l p.f1 p.f0 = 0
 ·obtain ⟨x,hx,hk⟩:=there_zero.mp ht
  have hg:=((has_find hs p.f1).2 x hx).1
  have hp:=(find_mem hx).2
  rw [if_pos ht,hg,hx]
  have hin : (l.any (fun x => insideB x.f0 p.f1)) = false ↔ ∀ x ∈ l,withinB x.f0 p.f1 = true → x.f0 = p.f1:=by
   rw [List.any_eq_false]
   constructor
   ·intro h y hy hw
    have:=h y hy
    rw [inside_iff] at this
    exact Decidable.byContradiction fun k => this ⟨k,hw⟩
   ·intro h y hy k
    rw [inside_iff] at k
    exact k.1 (h y hy k.2)
  constructor
  ·intro h
   have h' : ((l.any (fun x => insideB x.f0 p.f1) || decide (0 < x.f2.length) || (x.f3.toList != [])) = false):=by
    cases hh : (l.any (fun x => insideB x.f0 p.f1) || decide (0 < x.f2.length) || (x.f3.toList != [])) with
    | false => rfl
    | true => rw [hh] at h; simp at h
   simp only [Bool.or_eq_false_iff,decide_eq_false_iff_not] at h'
   obtain ⟨⟨h1,h2⟩,h3⟩:=h'
   refine ⟨?_,hin.mp h1⟩
   obtain ⟨a,b,c,d⟩:=x
   simp only at hk hp h2 h3
   have h2' : c = []:=List.length_eq_zero_iff.mp (by omega)
   have h3' : d = e0:=toList_nil (by simpa using h3)
   unfold newE
   rw [← hp,hk,h2',h3']
  ·rintro ⟨h1,h2⟩
   have hx':=Option.some.inj h1
   rw [if_neg]
   rw [hin.mpr h2,hx']
   simp [newE,e0]
 ·rw [if_neg ht]
  constructor
  ·intro k; exact absurd k ht
  ·rintro ⟨h1,_⟩; exact absurd (there_zero.mpr ⟨_,h1,rfl⟩) ht
theorem change_zero {l : List S41} {p : S25} : changeE l p = 0 ↔ ∃ x y,findV l p.f1 = some x ∧ x.f1 = kindV p.f0 ∧ changeV x p = some y:=by
 unfold changeE thingAt
 by_cases ht : thereV l p.f1 p.f0 = 0
 ·obtain ⟨x,hx,hk⟩:=there_zero.mp ht
  rw [if_pos ht,hx,Option.getD_some]
  cases hc : changeV x p with
  | none =>
   simp only [Option.isSome_none]
   constructor
   ·intro h; cases h
   ·rintro ⟨x',y,h1,h2,h3⟩
    rw [← Option.some.inj h1,hc] at h3; cases h3
  | some y => exact ⟨fun _ => ⟨x,y,rfl,hk,hc⟩,fun _ => rfl⟩
 ·rw [if_neg ht]
  constructor
  ·intro k; exact absurd k ht
  ·rintro ⟨x,y,h1,h2,_⟩; exact absurd (there_zero.mpr ⟨x,h1,h2⟩) ht
theorem change_L {l : List S41} {p : S25} {x y : S41} (h1 : findV l p.f1 = some x) (h2 : changeV x p = some y) : changeL l p = setL l p.f1 y:=by
 unfold changeL thingAt
 rw [h1,Option.getD_some,h2,Option.getD_some]
theorem change_f0 {x y : S41} {p : S25} (h : changeV x p = some y) : y.f0 = x.f0 ∧ y.f1 = x.f1:=by
 unfold changeV at h
 split at h
 ·obtain ⟨l,hl,e⟩:=Option.map_eq_some_iff.mp h
  rw [← e]; exact ⟨rfl,rfl⟩
 ·split at h
  ·obtain ⟨l,hl,e⟩:=Option.map_eq_some_iff.mp h
   rw [← e]; exact ⟨rfl,rfl⟩
  ·split at h
   ·rw [← Option.some.inj h]; exact ⟨rfl,rfl⟩
   ·cases h
theorem move_zero {l : List S41} {p : S25} : moveE l p = 0 ↔ (∃ x,findV l p.f1 = some x) ∧ findV l p.f2 = none ∧ Up l p.f2 ∧ ∀ x ∈ l,rightB (mvP x.f0 p.f1 p.f2) = true:=by
 unfold moveE
 cases hf : findV l p.f1 with
 | none => simp
 | some x =>
  by_cases h : roomV l p.f2 = 0
  ·have h':=room_zero.mp h
   by_cases k : l.all (fun x => rightB (mvP x.f0 p.f1 p.f2)) = true
   ·have k':=k
    rw [List.all_eq_true] at k'
    simp only [Option.isSome_some,if_true,if_pos h,if_pos k,true_iff]
    exact ⟨⟨x,rfl⟩,h'.1,h'.2,k'⟩
   ·simp only [Option.isSome_some,if_true,if_pos h,if_neg k]
    constructor
    ·intro m; cases m
    ·rintro ⟨_,_,_,m⟩; exact absurd (List.all_eq_true.mpr m) k
  ·simp only [Option.isSome_some,if_true,if_neg h]
   constructor
   ·intro m; exact absurd m h
   ·rintro ⟨_,a,b,_⟩; exact absurd (room_zero.mpr ⟨a,b⟩) h
/-! ### what lies where behind a move -/
theorem mvP_in {s fr : ByteArray} (to_ : ByteArray) (h : withinB s fr = true) : mvP s fr to_ = mv s fr to_:=if_pos h
theorem mvP_out {s fr : ByteArray} (to_ : ByteArray) (h : withinB s fr = false) : mvP s fr to_ = s:=if_neg (by rw [h]; simp)
theorem mv_inj {s t fr to_ : ByteArray} (hs : withinB s fr = true) (ht : withinB t fr = true) (h : mv s fr to_ = mv t fr to_) : s = t:=by
 rw [← mv_back to_ hs,← mv_back to_ ht,h]
theorem mvP_inj {s t fr to_ : ByteArray} (hs : withinB s to_ = false) (ht : withinB t to_ = false) (h : mvP s fr to_ = mvP t fr to_) : s = t:=by
 cases ks : withinB s fr with
 | true =>
  cases kt : withinB t fr with
  | true => rw [mvP_in _ ks,mvP_in _ kt] at h; exact mv_inj ks kt h
  | false =>
   rw [mvP_in _ ks,mvP_out _ kt] at h
   have:=mv_within to_ ks
   rw [h,ht] at this; cases this
 | false =>
  cases kt : withinB t fr with
  | true =>
   rw [mvP_out _ ks,mvP_in _ kt] at h
   have:=mv_within to_ kt
   rw [← h,hs] at this; cases this
  | false => rw [mvP_out _ ks,mvP_out _ kt] at h; exact h
theorem move_dis {l : List S41} (hs : Srt l) {fr to_ : ByteArray} (hn : ∀ x ∈ l,withinB x.f0 to_ = false) : Dis (l.map (mvX fr to_)):=by
 unfold Dis
 rw [List.pairwise_map]
 refine List.Pairwise.imp_of_mem ?_ hs
 intro x y hx hy hlt k
 exact ltP_ne hlt (mvP_inj (hn x hx) (hn y hy) k)
/-- What lies where behind a move to where nothing lies. -/
theorem move_find {l : List S41} (hs : Srt l) {fr to_ : ByteArray} (hn : ∀ x ∈ l,withinB x.f0 to_ = false) (s : ByteArray) :
  findV (sortV (l.map (mvX fr to_))) s = if withinB s to_ then (findV l (mv s to_ fr)).bind (fun x => if withinB (mv s to_ fr) fr then some { x with f0:=s } else none) else if withinB s fr then none else findV l s:=by
 have hd:=move_dis hs (fr:=fr) hn
 rw [sort_find hd]
 cases ht : withinB s to_ with
 | true =>
  rw [if_pos rfl]
  have hm:=mv_within fr ht
  cases hf : findV l (mv s to_ fr) with
  | none =>
   rw [Option.bind_none]
   refine find_none.mpr fun y hy e => ?_
   obtain ⟨x,hx,rfl⟩:=List.mem_map.mp hy
   have e' : mvP x.f0 fr to_ = s:=e
   cases k : withinB x.f0 fr with
   | false => rw [mvP_out _ k] at e'; rw [← e',hn x hx] at ht; cases ht
   | true =>
    rw [mvP_in _ k] at e'
    refine find_none.mp hf x hx ?_
    rw [← e',mv_back to_ k]
  | some x =>
   rw [Option.bind_some,if_pos hm]
   obtain ⟨hx,hp⟩:=find_mem hf
   have e : mvX fr to_ x = { x with f0:=s }:=by
    unfold mvX
    rw [hp,mvP_in _ hm,mv_back fr ht]
   have:=find_dis hd (List.mem_map_of_mem (f:=mvX fr to_) hx)
   rw [e] at this
   exact this
 | false =>
  rw [if_neg (by simp)]
  cases hfr : withinB s fr with
  | true =>
   rw [if_pos rfl]
   refine find_none.mpr fun y hy e => ?_
   obtain ⟨x,hx,rfl⟩:=List.mem_map.mp hy
   have e' : mvP x.f0 fr to_ = s:=e
   cases k : withinB x.f0 fr with
   | false => rw [mvP_out _ k] at e'; rw [e',hfr] at k; cases k
   | true => rw [mvP_in _ k] at e'; have:=mv_within to_ k; rw [e',ht] at this; cases this
  | false =>
   rw [if_neg (by simp)]
   cases hf : findV l s with
   | none =>
    refine find_none.mpr fun y hy e => ?_
    obtain ⟨x,hx,rfl⟩:=List.mem_map.mp hy
    have e' : mvP x.f0 fr to_ = s:=e
    cases k : withinB x.f0 fr with
    | false => rw [mvP_out _ k] at e'; exact find_none.mp hf x hx e'
    | true => rw [mvP_in _ k] at e'; have:=mv_within to_ k; rw [e',ht] at this; cases this
   | some x =>
    obtain ⟨hx,hp⟩:=find_mem hf
    have e : mvX fr to_ x = x:=by
     unfold mvX
     rw [hp,mvP_out _ hfr,← hp]
    have:=find_dis hd (List.mem_map_of_mem (f:=mvX fr to_) hx)
    rw [e,hp] at this
    exact this
end Go.Proofs.YthhohbidjhcjeaaGreatDoor.H
