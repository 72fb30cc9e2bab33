/- What a patch makes of a tree is one. -/
import Derived.Test.YthhohbidjhcjeaaGreatDoorBM4
import Derived.Lib.Overlaps
import Derived.Lib.AppendZerosOnto
import Derived.Laws.IdiomCopy
import Derived.Laws.NewBlocks
import Derived.Lib.Walk
import Derived.Lib.JoinLaws
import Derived.Shelf.RegionOpenPlain
import Derived.Shelf.Spec.SlicesGrow
import Derived.Test.YthhohbidjhcjeaaGreatDoorBM3
import Derived.Sort.LoopGhostIn
import Derived.Maps.OwnIn
import Derived.Shelf.Strings.Builder1
namespace Go.Proofs.YthhohbidjhcjeaaGreatDoor.H
open Go.RowKit Go.Proofs.YthhohbidjhcjeaaGreatDoor.Q Go.Proofs.YthhohbidjhcjeaaGreatDoor.Pl
set_option linter.unusedVariables false
set_option linter.unusedSimpArgs false
/-! ### right patches -/
theorem prim_path {p : S25} (h : primB p = true) : rightB p.f1 = true:=by
 unfold primB at h
 simp only [Bool.and_eq_true] at h
 exact h.1.1
theorem prim_move {p : S25} (h : primB p = true) (h10 : p.f0 = 10) : rightB p.f2 = true ∧ apartB p.f1 p.f2 = true:=by
 unfold primB kindB at h
 rw [if_neg (by omega),if_neg (by omega)] at h
 by_cases h3 : p.f3.toList = ([] : List UInt8)
 ·rw [if_pos h3,if_pos h10] at h
  simp only [Bool.and_eq_true] at h
  exact h.2
 ·rw [if_neg h3,Bool.and_false] at h
  cases h
theorem prim_lines {p : S25} (h : primB p = true) (h7 : p.f0 = 7) : p.f2.toList = [] ∧ p.f3.toList = [] ∧ 0 ≤ p.f4 ∧ p.f4 ≤ 1073741824 ∧ linesB p.f5 = true ∧ linesB p.f6 = true ∧ 0 < p.f5.length + p.f6.length:=by
 unfold primB kindB at h
 rw [if_neg (by omega),if_neg (by omega)] at h
 by_cases h3 : p.f3.toList = ([] : List UInt8)
 ·rw [if_pos h3,if_neg (by omega),if_pos h7] at h
  simp only [Bool.and_eq_true,decide_eq_true_eq] at h
  obtain ⟨_,⟨⟨⟨⟨⟨a,b⟩,c⟩,d⟩,e⟩,f⟩⟩:=h
  exact ⟨a,h3,b,c,d,e,f⟩
 ·rw [if_neg h3,Bool.and_false] at h
  cases h
theorem prim_token {p : S25} (h : primB p = true) (h8 : p.f0 = 8) : tokenB p.f3 = true ∧ tokenB p.f2 = true ∧ p.f3 ≠ p.f2:=by
 unfold primB kindB at h
 rw [if_pos h8] at h
 simp only [Bool.and_eq_true] at h
 obtain ⟨_,⟨a,b⟩,c⟩:=h
 refine ⟨a,b,fun k => ?_⟩
 rw [k] at c
 simp at c
theorem prim_bytes {p : S25} (h : primB p = true) (h9 : p.f0 = 9) : p.f3 ≠ p.f2:=by
 unfold primB kindB at h
 rw [if_neg (by omega),if_pos h9] at h
 simp only [Bool.and_eq_true] at h
 intro k
 rw [k] at h
 simp at h
theorem prim_low {p : S25} (h : primB p = true) (h6 : p.f0 ≤ 6) : p.f2 = e0 ∧ p.f3 = e0:=by
 unfold primB kindB at h
 rw [if_neg (by omega),if_neg (by omega)] at h
 by_cases h3 : p.f3.toList = ([] : List UInt8)
 ·rw [if_pos h3,if_neg (by omega),if_neg (by omega)] at h
  simp only [Bool.and_eq_true,decide_eq_true_eq] at h
  exact ⟨toList_nil h.2.1.1,toList_nil h3⟩
 ·rw [if_neg h3,Bool.and_false] at h
  cases h
theorem kind_low {k : Int} (h1 : 1 ≤ k) (h2 : k ≤ 9) : 1 ≤ kindV k ∧ kindV k ≤ 3:=by
 have : k = 1 ∨ k = 2 ∨ k = 3 ∨ k = 4 ∨ k = 5 ∨ k = 6 ∨ k = 7 ∨ k = 8 ∨ k = 9:=by omega
 rcases this with rfl | rfl | rfl | rfl | rfl | rfl | rfl | rfl | rfl <;> decide
/-! ### lines -/
theorem hasNL_iff (s : ByteArray) : hasNL s = true ↔ (10 : UInt8) ∈ s.data.toList:=by
 unfold hasNL
 rw [decide_eq_true_eq]
 constructor
 ·intro h
  obtain ⟨o,ho⟩ : ∃ o : Nat,Lib.indexByte s.data.toList 10 = o:=⟨(Lib.indexByte s.data.toList 10).toNat,by omega⟩
  exact List.mem_of_getElem? (Lib.indexByte_some ho).1
 ·intro h
  have hge:=Lib.indexByte_ge s.data.toList 10
  rcases Int.lt_or_le (Lib.indexByte s.data.toList 10) 0 with k | k
  ·have k' : Lib.indexByte s.data.toList 10 = -1:=by omega
   obtain ⟨j,hj,e⟩:=List.getElem_of_mem h
   exact absurd (by rw [List.getElem?_eq_getElem hj,e]) (Lib.indexByte_none k' j)
  ·exact k
theorem lines_iff (l : List ByteArray) : linesB l = true ↔ ∀ s ∈ l,(10 : UInt8) ∉ s.data.toList:=by
 unfold linesB
 rw [Bool.not_eq_true',List.any_eq_false]
 constructor
 ·intro h s hs k
  exact h s hs ((hasNL_iff s).mpr k)
 ·intro h s hs k
  exact h s hs ((hasNL_iff s).mp k)
theorem hunk_some {l old new k : List ByteArray} {a : Int} (h : hunkV l a old new = some k) : 0 ≤ a ∧ ∃ x y,l = x ++ old ++ y ∧ x.length = a.toNat ∧ k = x ++ new ++ y:=by
 unfold hunkV at h
 split at h
 ·rename_i hc
  obtain ⟨h0,h1,h2⟩:=hc
  refine ⟨h0,l.take a.toNat,l.drop (a.toNat + old.length),?_,?_,(Option.some.inj h).symm⟩
  ·conv => lhs; rw [← List.take_append_drop a.toNat l,← List.take_append_drop old.length (l.drop a.toNat),h2,List.drop_drop]
   rw [List.append_assoc]
  ·rw [List.length_take]; omega
 ·cases h
theorem hunk_of (x old y new : List ByteArray) : hunkV (x ++ old ++ y) (x.length : Int) old new = some (x ++ new ++ y):=by
 unfold hunkV
 rw [if_pos]
 ·have e1 : (x ++ old ++ y).take x.length = x:=by rw [List.append_assoc,List.take_left' rfl]
  have e2 : (x ++ old ++ y).drop (x.length + old.length) = y:=by rw [← List.length_append,List.drop_left' rfl]
  rw [Int.toNat_natCast,e1,e2]
 ·rw [Int.toNat_natCast]
  refine ⟨by omega,by simp only [List.length_append]; omega,?_⟩
  rw [List.append_assoc,List.drop_left' rfl,List.take_left' rfl]
theorem runs_ne : ∀ (s : List UInt8) (r : List UInt8),r ∈ runs s → r ≠ []
 | [],r,h => by cases h
 | c :: s,r,h => by
  unfold runs at h
  have ih:=runs_ne s
  split at h
  ·rename_i d r' rest hr
   rw [hr] at ih
   split at h
   ·rcases List.mem_cons.mp h with rfl | h
    ·simp
    ·exact ih r (List.mem_cons_of_mem _ h)
   ·rcases List.mem_cons.mp h with rfl | h
    ·simp
    ·exact ih r h
  ·rw [List.mem_singleton] at h
   rw [h]; simp
theorem runs_flat : ∀ (s : List UInt8),(runs s).flatten = s
 | [] => rfl
 | c :: s => by
  have ih:=runs_flat s
  unfold runs
  split
  ·rename_i d r' rest hr
   rw [hr] at ih
   split
   ·rw [← ih]; rfl
   ·rw [← ih]; rfl
  ·rename_i hr
   cases hs : runs s with
   | nil => rw [hs] at ih; rw [← ih]; rfl
   | cons r rest =>
    cases r with
    | nil => exact absurd rfl (runs_ne s [] (by rw [hs]; simp))
    | cons d r' => exact absurd hs (hr d r' rest)
/-- Runs: all of one class, and neighbours of unlike ones. -/
def Uni (b : Bool) (r : List UInt8) : Prop:=r ≠ [] ∧ ∀ c ∈ r,inU c = b
def Alt : List (List UInt8) → Prop
 | [] => True
 | r :: rest => ∃ b,Uni b r ∧ (∀ r' ∈ rest.head?,Uni (!b) r') ∧ Alt rest
theorem alt_runs : ∀ (s : List UInt8),Alt (runs s)
 | [] => trivial
 | c :: s => by
  have ih:=alt_runs s
  unfold runs
  split
  ·rename_i d r' rest hr
   rw [hr] at ih
   obtain ⟨b,hu,hn,ha⟩:=ih
   have hd : inU d = b:=hu.2 d (by simp)
   split
   ·rename_i hc
    refine ⟨b,⟨by simp,fun x hx => ?_⟩,hn,ha⟩
    rcases List.mem_cons.mp hx with rfl | hx
    ·rw [hc,hd]
    ·exact hu.2 x hx
   ·rename_i hc
    refine ⟨inU c,⟨by simp,fun x hx => by rw [List.mem_singleton] at hx; rw [hx]⟩,fun r hr' => ?_,b,hu,hn,ha⟩
    rw [List.head?_cons,Option.mem_some_iff] at hr'
    rw [← hr']
    have : b = !(inU c):=by
     rw [hd] at hc
     cases b <;> cases hcc : inU c <;> simp_all
    rw [← this]; exact hu
  ·exact ⟨inU c,⟨by simp,fun x hx => by rw [List.mem_singleton] at hx; rw [hx]⟩,(fun r hr' => by cases hr'),trivial⟩
theorem runs_eq (c : UInt8) (s : List UInt8) : runs (c :: s) = match runs s with
  | (d :: r) :: rest => if inU c = inU d then (c :: d :: r) :: rest else [c] :: (d :: r) :: rest
  | _ => [[c]]:=rfl
/-- The runs of a run and more. -/
theorem runs_cons {b : Bool} : ∀ {r : List UInt8} {s : List UInt8},Uni b r → (∀ r' ∈ (runs s).head?,Uni (!b) r') → runs (r ++ s) = r :: runs s
 | [],s,h,_ => absurd rfl h.1
 | [c],s,h,hn => by
  show runs (c :: s) = _
  have hc : inU c = b:=h.2 c (by simp)
  cases hs : runs s with
  | nil => unfold runs; rw [hs]
  | cons r' rest =>
   cases r' with
   | nil => exact absurd rfl (runs_ne s [] (by rw [hs]; simp))
   | cons d t =>
    have hd : inU d = !b:=(hn (d :: t) (by rw [hs]; rfl)).2 d (by simp)
    unfold runs
    rw [hs]
    simp only
    rw [if_neg (by rw [hc,hd]; cases b <;> simp)]
 | c :: d :: r,s,h,hn => by
  have hc : inU c = b:=h.2 c (by simp)
  have hd : inU d = b:=h.2 d (by simp)
  have ih:=runs_cons (b:=b) (r:=d :: r) (s:=s) ⟨by simp,fun x hx => h.2 x (List.mem_cons_of_mem _ hx)⟩ hn
  show runs (c :: ((d :: r) ++ s)) = _
  rw [runs_eq,ih]
  simp only
  rw [if_pos (by rw [hc,hd])]
theorem runs_of_alt : ∀ {L : List (List UInt8)},Alt L → runs L.flatten = L
 | [],_ => rfl
 | r :: rest,h => by
  obtain ⟨b,hu,hn,ha⟩:=h
  have ih:=runs_of_alt ha
  rw [List.flatten_cons,runs_cons hu (by rw [ih]; exact hn),ih]
theorem token_uni {s : ByteArray} (h : tokenB s = true) : Uni true s.data.toList:=by
 unfold tokenB at h
 rw [Bool.and_eq_true] at h
 refine ⟨fun k => ?_,fun c hc => List.all_eq_true.mp h.1 c hc⟩
 rw [toList_data,k] at h
 simp at h
theorem alt_map {f : List UInt8 → List UInt8} (hf : ∀ b r,Uni b r → Uni b (f r)) : ∀ {L : List (List UInt8)},Alt L → Alt (L.map f)
 | [],_ => trivial
 | r :: rest,h => by
  obtain ⟨b,hu,hn,ha⟩:=h
  refine ⟨b,hf b r hu,?_,alt_map hf ha⟩
  intro r' hr'
  cases rest with
  | nil => cases hr'
  | cons x rest =>
   rw [List.map_cons,List.head?_cons,Option.mem_some_iff] at hr'
   rw [← hr']
   exact hf _ _ (hn x rfl)
/-- A piece replaced. -/
def repR (fr to_ : ByteArray) (r : List UInt8) : List UInt8:=if r = fr.data.toList then to_.data.toList else r
theorem rep_uni {fr to_ : ByteArray} (hf : tokenB fr = true) (ht : tokenB to_ = true) : ∀ b r,Uni b r → Uni b (repR fr to_ r):=by
 intro b r h
 unfold repR
 split
 ·rename_i e
  have h1:=token_uni hf
  have h2:=token_uni ht
  have : b = true:=by
   cases hr : r with
   | nil => exact absurd hr h.1
   | cons c r' =>
    have a1:=h.2 c (by rw [hr]; simp)
    have a2:=h1.2 c (by rw [← e,hr]; simp)
    rw [← a1,a2]
  rw [this]; exact h2
 ·exact h
theorem repl_data (s fr to_ : ByteArray) : (replV s fr to_).data.toList = ((runs s.data.toList).map (repR fr to_)).flatten:=by
 unfold replV
 simp only [List.flatMap]
 rfl
theorem repl_runs {fr to_ : ByteArray} (hf : tokenB fr = true) (ht : tokenB to_ = true) (s : ByteArray) : runs (replV s fr to_).data.toList = (runs s.data.toList).map (repR fr to_):=by
 rw [repl_data]
 exact runs_of_alt (alt_map (rep_uni hf ht) (alt_runs _))
theorem pieces_has (s t : ByteArray) : (runs s.data.toList).contains t.data.toList = true ↔ t.data.toList ∈ runs s.data.toList:=List.contains_iff_mem
theorem tok_some {l k : List ByteArray} {fr to_ : ByteArray} (h : tokV l fr to_ = some k) : (∀ s ∈ l,to_.data.toList ∉ runs s.data.toList) ∧ k = l.map (fun s => replV s fr to_):=by
 unfold tokV at h
 split at h
 ·cases h
 ·rename_i hn
  refine ⟨fun s hs hm => hn ?_,(Option.some.inj h).symm⟩
  exact List.any_eq_true.mpr ⟨s,hs,(pieces_has s to_).mpr hm⟩
theorem tok_of {l : List ByteArray} {fr to_ : ByteArray} (h : ∀ s ∈ l,to_.data.toList ∉ runs s.data.toList) : tokV l fr to_ = some (l.map (fun s => replV s fr to_)):=by
 unfold tokV
 rw [if_neg]
 intro k
 obtain ⟨s,hs,hc⟩:=List.any_eq_true.mp k
 exact h s hs ((pieces_has s to_).mp hc)
/-- What one token became another one, becomes it once more. -/
theorem tok_back {l k : List ByteArray} {fr to_ : ByteArray} (hf : tokenB fr = true) (ht : tokenB to_ = true) (hne : fr ≠ to_) (h : tokV l fr to_ = some k) : tokV k to_ fr = some l:=by
 obtain ⟨h1,rfl⟩:=tok_some h
 have hne' : fr.data.toList ≠ to_.data.toList:=fun e => hne (data_inj e)
 rw [tok_of]
 ·congr 1
  rw [List.map_map]
  conv => rhs; rw [← List.map_id l]
  refine List.map_congr_left fun s hs => data_inj ?_
  show (replV (replV s fr to_) to_ fr).data.toList = s.data.toList
  rw [repl_data,repl_runs hf ht,List.map_map]
  conv => rhs; rw [← runs_flat s.data.toList]
  congr 1
  conv => rhs; rw [← List.map_id (runs s.data.toList)]
  refine List.map_congr_left fun r hr => ?_
  show repR to_ fr (repR fr to_ r) = r
  unfold repR
  by_cases e : r = fr.data.toList
  ·rw [if_pos e,if_pos rfl,e]
  ·rw [if_neg e,if_neg (fun k => h1 s hs (by rw [← k]; exact hr))]
 ·intro s' hs' hm
  obtain ⟨s,hs,rfl⟩:=List.mem_map.mp hs'
  rw [repl_runs hf ht] at hm
  obtain ⟨r,hr,e⟩:=List.mem_map.mp hm
  unfold repR at e
  split at e
  ·exact hne' e.symm
  ·rename_i k; exact k e
theorem token_nl {s : ByteArray} (h : tokenB s = true) : (10 : UInt8) ∉ s.data.toList:=fun hm => by
 have:=(token_uni h).2 10 hm
 revert this
 decide
theorem tok_lines {l k : List ByteArray} {fr to_ : ByteArray} (ht : tokenB to_ = true) (hl : linesB l = true) (h : tokV l fr to_ = some k) : linesB k = true:=by
 obtain ⟨h1,rfl⟩:=tok_some h
 rw [lines_iff] at hl ⊢
 intro s' hs' hm
 obtain ⟨s,hs,rfl⟩:=List.mem_map.mp hs'
 rw [repl_data] at hm
 obtain ⟨r',hr',hc⟩:=List.mem_flatten.mp hm
 obtain ⟨r,hr,rfl⟩:=List.mem_map.mp hr'
 unfold repR at hc
 split at hc
 ·exact token_nl ht hc
 ·refine hl s hs ?_
  rw [← runs_flat s.data.toList]
  exact List.mem_flatten.mpr ⟨r,hr,hc⟩
theorem hunk_lines {l old new k : List ByteArray} {a : Int} (hl : linesB l = true) (hn : linesB new = true) (h : hunkV l a old new = some k) : linesB k = true:=by
 obtain ⟨_,x,y,rfl,_,rfl⟩:=hunk_some h
 rw [lines_iff] at hl hn ⊢
 intro s hs
 rcases List.mem_append.mp hs with hs | hs
 ·rcases List.mem_append.mp hs with hs | hs
  ·exact hl s (by simp [hs])
  ·exact hn s hs
 ·exact hl s (by simp [hs])
theorem hunk_back {l old new k : List ByteArray} {a : Int} (h : hunkV l a old new = some k) : hunkV k a new old = some l:=by
 obtain ⟨h0,x,y,rfl,hx,rfl⟩:=hunk_some h
 have:=hunk_of x new y old
 rwa [show (x.length : Int) = a by omega] at this
/-! ### things -/
theorem thing_iff (x : S41) : thingB x = true ↔ rightB x.f0 = true ∧ 1 ≤ x.f1 ∧ x.f1 ≤ 3 ∧ linesB x.f2 = true ∧ (x.f1 = 2 ∨ x.f2 = []) ∧ (x.f1 = 3 ∨ x.f3 = e0):=by
 unfold thingB
 simp only [Bool.and_eq_true,Bool.or_eq_true,decide_eq_true_eq]
 constructor
 ·rintro ⟨⟨⟨⟨⟨a,b⟩,c⟩,d⟩,e⟩,f⟩
  exact ⟨a,b,c,d,e.imp id List.length_eq_zero_iff.mp,f.imp id toList_nil⟩
 ·rintro ⟨a,b,c,d,e,f⟩
  exact ⟨⟨⟨⟨⟨a,b⟩,c⟩,d⟩,e.imp id (fun h => by rw [h]; rfl)⟩,f.imp id (fun h => by rw [h,toList_data]; rfl)⟩
theorem change_thing {x y : S41} {p : S25} (hp : primB p = true) (hx : thingB x = true) (h7 : 7 ≤ p.f0) (h9 : p.f0 ≤ 9) (hk : x.f1 = kindV p.f0) (h : changeV x p = some y) : thingB y = true:=by
 rw [thing_iff] at hx ⊢
 obtain ⟨a,b,c,d,e,f⟩:=hx
 have : p.f0 = 7 ∨ p.f0 = 8 ∨ p.f0 = 9:=by omega
 unfold changeV at h
 rcases this with k | k | k
 ·rw [if_pos k] at h
  obtain ⟨l,hl,rfl⟩:=Option.map_eq_some_iff.mp h
  have hk2 : x.f1 = 2:=by rw [hk,k]; rfl
  exact ⟨a,b,c,hunk_lines d (prim_lines hp k).2.2.2.2.2.1 hl,.inl hk2,f⟩
 ·rw [if_neg (by omega),if_pos k] at h
  obtain ⟨l,hl,rfl⟩:=Option.map_eq_some_iff.mp h
  have hk2 : x.f1 = 2:=by rw [hk,k]; rfl
  exact ⟨a,b,c,tok_lines (prim_token hp k).2.1 d hl,.inl hk2,f⟩
 ·rw [if_neg (by omega),if_neg (by omega)] at h
  split at h
  ·rw [← Option.some.inj h]
   have hk3 : x.f1 = 3:=by rw [hk,k]; rfl
   exact ⟨a,b,c,d,e,.inl hk3⟩
  ·cases h
/-! ### what a patch makes of a tree is one -/
theorem add_tree {l : List S41} {p : S25} (ht : Tr l) (hp : primB p = true) (h9 : p.f0 ≤ 9) (h1 : 1 ≤ p.f0) (h : addE l p = 0) : Tr (insL l (newE p)):=by
 obtain ⟨hn,hu,hl⟩:=add_zero.mp h
 have hf:=ins_find ht.s (x:=newE p) hn
 have e1 : (newE p).f0 = p.f1:=rfl
 refine Tr.of ?_ (ins_srt ht.s hn) ?_ ?_
 ·have:=ht.n
  rw [ins_len]; omega
 ·intro q x hx
  rw [hf] at hx
  split at hx
  ·rw [← Option.some.inj hx,thing_iff]
   have:=kind_low h1 h9
   exact ⟨prim_path hp,this.1,this.2,rfl,.inr rfl,.inr rfl⟩
  ·exact ht.thing hx
 ·intro q x u hx hq
  rw [hf] at hx
  have hlt:=parent_lt hq
  split at hx
  ·rename_i e
   rw [e1] at e
   subst e
   obtain ⟨y,hy,k⟩:=hu u hq
   refine ⟨y,?_,k⟩
   rw [hf,if_neg (by rw [e1]; exact ltP_ne hlt),hy]
  ·obtain ⟨y,hy,k⟩:=ht.parent hx hq
   refine ⟨y,?_,k⟩
   rw [hf,if_neg,hy]
   intro e
   rw [e1] at e
   rw [e,hn] at hy; cases hy
theorem remove_tree {l : List S41} {p : S25} (ht : Tr l) (h : removeE l p.f1 p.f0 = 0) : Tr (delL l p.f1):=by
 obtain ⟨hn,hi⟩:=(remove_zero ht.s).mp h
 have hf:=del_find ht.s hn
 refine Tr.of ?_ (del_srt ht.s _) ?_ ?_
 ·have:=del_len ht.s hn
  have:=ht.n
  omega
 ·intro q x hx
  rw [hf] at hx
  split at hx
  ·cases hx
  ·exact ht.thing hx
 ·intro q x u hx hq
  rw [hf] at hx
  split at hx
  ·cases hx
  ·rename_i hne
   obtain ⟨y,hy,k⟩:=ht.parent hx hq
   refine ⟨y,?_,k⟩
   rw [hf,if_neg,hy]
   intro e
   have hw:=parent_within hq
   rw [e] at hw
   obtain ⟨hm,e2⟩:=find_mem hx
   rw [← e2] at hw hne
   exact hne (hi x hm hw)
theorem change_tree {l : List S41} {p : S25} (ht : Tr l) (hp : primB p = true) (h7 : 7 ≤ p.f0) (h9 : p.f0 ≤ 9) (h : changeE l p = 0) : Tr (changeL l p):=by
 obtain ⟨x,y,hx,hk,hc⟩:=change_zero.mp h
 rw [change_L hx hc]
 obtain ⟨c0,c1⟩:=change_f0 hc
 have e : y.f0 = p.f1:=c0.trans (find_mem hx).2
 have hf:=set_find ht.s hx e
 refine Tr.of (by rw [set_len]; exact ht.n) (set_srt ht.s hx e) ?_ ?_
 ·intro q z hz
  rw [hf] at hz
  split at hz
  ·rw [← Option.some.inj hz]
   exact change_thing hp (ht.thing hx) h7 h9 hk hc
  ·exact ht.thing hz
 ·intro q z u hz hq
  have hpar : ∃ w,findV l q = some w:=by
   rw [hf] at hz
   split at hz
   ·rename_i e'; exact ⟨x,by rw [e',hx]⟩
   ·exact ⟨z,hz⟩
  obtain ⟨w,hw⟩:=hpar
  obtain ⟨v,hv,k⟩:=ht.parent hw hq
  by_cases e' : u = p.f1
  ·refine ⟨y,by rw [hf,if_pos e'],?_⟩
   rw [e',hx] at hv
   rw [c1,Option.some.inj hv,k]
  ·exact ⟨v,by rw [hf,if_neg e',hv],k⟩
theorem parent_mv {q to_ fr u : ByteArray} (hw : withinB q to_ = true) (hne : q ≠ to_) (hq : parentV q = some u) : withinB u to_ = true ∧ parentV (mv q to_ fr) = some (mv u to_ fr):=by
 obtain ⟨v,hv,hvw⟩:=within_parent hw hne
 rw [hq] at hv
 rw [← Option.some.inj hv] at hvw
 refine ⟨hvw,?_⟩
 rcases parent_cases q with ⟨e,_⟩ | ⟨u',t,e,hd,hnt⟩
 ·rw [e] at hq; cases hq
 ·rw [e] at hq
  have:=Option.some.inj hq
  subst this
  obtain ⟨r,hr,_⟩:=(within_iff _ _).mp hvw
  refine parent_eq (t:=t) ?_ hnt
  rw [mv_data fr hr]
  rw [hr,List.append_assoc] at hd
  rw [mv_data fr hd,List.append_assoc]
theorem within_len {q to_ : ByteArray} (h : withinB q to_ = true) : to_.size ≤ q.size:=within_size h
theorem move_tree {l : List S41} {p : S25} (ht : Tr l) (hp : primB p = true) (h10 : p.f0 = 10) (h : moveE l p = 0) : Tr (moveL l p):=by
 obtain ⟨⟨x0,hx0⟩,hn,hu,hr⟩:=move_zero.mp h
 obtain ⟨_,hap⟩:=prim_move hp h10
 obtain ⟨a1,a2⟩:=apart_within hap
 have hnw:=ht.none_within hn
 have hf:=move_find ht.s (fr:=p.f1) hnw
 unfold moveL
 refine Tr.of ?_ (sort_srt (move_dis ht.s hnw)) ?_ ?_
 ·rw [sort_len,List.length_map]; exact ht.n
 ·intro q x hx
  obtain ⟨hm,_⟩:=find_mem hx
  rw [sort_mem] at hm
  obtain ⟨z,hz,rfl⟩:=List.mem_map.mp hm
  have h1:=ht.t z hz
  rw [thing_iff] at h1 ⊢
  exact ⟨hr z hz,h1.2⟩
 ·intro q x u hx hq
  rw [hf] at hx
  have hlt:=parent_lt hq
  cases hqt : withinB q p.f2 with
  | true =>
   rw [hqt,if_pos rfl] at hx
   obtain ⟨z,hz,hz2⟩:=Option.bind_eq_some_iff.mp hx
   by_cases e : q = p.f2
   ·subst e
    obtain ⟨y,hy,k⟩:=hu u hq
    refine ⟨y,?_,k⟩
    have n1 : withinB u p.f2 = false:=by
     cases hh : withinB u p.f2 with
     | false => rfl
     | true =>
      have:=within_antisymm hh (parent_within hq)
      exact absurd this (ltP_ne hlt)
    have n2 : withinB u p.f1 = false:=by
     cases hh : withinB u p.f1 with
     | false => rfl
     | true => have:=within_trans (parent_within hq) hh; rw [a2] at this; cases this
    rw [hf,n1,n2,if_neg (by simp),if_neg (by simp),hy]
   ·obtain ⟨hw,hpm⟩:=parent_mv (fr:=p.f1) hqt e hq
    obtain ⟨y,hy,k⟩:=ht.parent hz hpm
    refine ⟨{ y with f0:=u },?_,k⟩
    rw [hf,hw,if_pos rfl,hy,Option.bind_some,if_pos (mv_within p.f1 hw)]
  | false =>
   rw [hqt,if_neg (by simp)] at hx
   split at hx
   ·cases hx
   ·rename_i hqf
    obtain ⟨y,hy,k⟩:=ht.parent hx hq
    refine ⟨y,?_,k⟩
    have n1 : withinB u p.f2 = false:=by
     cases hh : withinB u p.f2 with
     | false => rfl
     | true => have:=within_trans (parent_within hq) hh; rw [hqt] at this; cases this
    have n2 : withinB u p.f1 = false:=by
     cases hh : withinB u p.f1 with
     | false => rfl
     | true => exact absurd (within_trans (parent_within hq) hh) hqf
    rw [hf,n1,n2,if_neg (by simp),if_neg (by simp),hy]
/-- Which kinds right patches have. -/
theorem do_tree {l : List S41} {p : S25} (ht : Tr l) (hp : primB p = true) (h : doE l p = 0) : Tr (doL l p):=by
 obtain ⟨h1,h2⟩:=primB_lo hp
 unfold doE at h
 unfold doL
 by_cases h10 : p.f0 = 10
 ·rw [if_pos h10] at h ⊢
  exact move_tree ht hp h10 h
 ·rw [if_neg h10] at h ⊢
  by_cases h7 : 7 ≤ p.f0
  ·rw [if_pos h7] at h ⊢
   exact change_tree ht hp h7 (by omega) h
  ·rw [if_neg h7] at h ⊢
   by_cases ha : p.f0 = 1 ∨ p.f0 = 3 ∨ p.f0 = 5
   ·rw [if_pos ha] at h ⊢
    exact add_tree ht hp (by omega) h1 h
   ·rw [if_neg ha] at h ⊢
    exact remove_tree ht h
theorem apply_zero {l : List S41} {p : S25} : applyE l p = 0 ↔ Tr l ∧ primB p = true ∧ doE l p = 0:=by
 unfold applyE
 by_cases ht : treeB l = true
 ·by_cases hp : primB p = true
  ·rw [if_pos (by rw [ht,hp]; rfl)]
   exact ⟨fun h => ⟨tree_iff.mp ht,hp,h⟩,fun h => h.2.2⟩
  ·rw [if_neg (by rw [ht]; simpa using hp)]
   exact ⟨(fun h => by cases h),fun h => absurd h.2.1 hp⟩
 ·rw [if_neg (by rw [Bool.and_eq_true]; exact fun k => ht k.1)]
  exact ⟨(fun h => by cases h),fun h => absurd (tree_iff.mpr h.1) ht⟩
theorem apply_tree {l : List S41} {p : S25} (h : applyE l p = 0) : Tr (doL l p):=by
 obtain ⟨a,b,c⟩:=apply_zero.mp h
 exact do_tree a b c
end Go.Proofs.YthhohbidjhcjeaaGreatDoor.H
namespace Go.Proofs.YthhohbidjhcjeaaGreatDoor.H
open Go.RowKit Go.Shelf Go.Proofs.YthhohbidjhcjeaaGreatDoor.Q Go.Proofs.YthhohbidjhcjeaaGreatDoorW.PrintWords Go.Proofs.YthhohbidjhcjeaaGreatDoorW.PrintLast Go.Proofs.YthhohbidjhcjeaaGreatDoorW.PrintMore
set_option linter.unusedVariables false
set_option linter.unusedSimpArgs false
/-- 'copy' of entries. -/
theorem run_copy4 (w : World) (ty : TypeId) (b o dLen dCap : Nat) (a : Addr) (sLen sCap : Nat) (cs : List Value) (hn : cs.length = Nat.min sLen dLen * 4)
  (hsrc : ∀ j v,cs[j]? = some v → w.cell? (a.add j) = some v) (hc : ∀ j,j < cs.length → (w.cell? ⟨b,o + j,none⟩).isSome = true) (hf : ∀ j,j < cs.length → w.frozen? ⟨b,o + j,none⟩ = false) (h1 : ∀ v ∈ cs,v.oneCell' = true) :
  (Builtin.copy_ #[22,22] ty #[.slice (some ⟨b,o,none⟩) dLen dCap,.slice (some a) sLen sCap]).run Tryz.prog w = .ok (goInt (Nat.min sLen dLen)) (w.setCells b o cs):=by
 obtain ⟨i0,hi,hz0,hz1,hz2⟩:=info_parts info41
 have hl:=run_loadCells_list (P:=Tryz.prog) w a cs hsrc
 have hst:=run_storeCells_cells (P:=Tryz.prog) b o cs 0 w (by simpa using hc) (by simpa using hf) h1
 simp [Builtin.copy_,run_underlying Tryz.underlying22,Builtin.lenOf,Builtin.firstCells,sizeOf,typeInfo,hi,hz1,← hn,hl,hst]
theorem wp_copy4 (w : World) {o : Oper} {a : Act} {K : Act → World → Prop} {Q : Exit → Act → World → Prop} (d s : Operand) (t t' : TypeId)
  (ho : o.op = .call { callee:=.builtin .copy,args:=#[d,s],argTypes:=#[t,t'] }) (v u : Value) (hd : a.eval d = v) (hs : a.eval s = u) {v' : Value} {w' : World}
  (hr : (Builtin.copy_ #[t,t'] o.type #[v,u]).run Tryz.prog w = .ok v' w') (h : K (a.put o.dst v') w') : o.wp Tryz.prog a w K Q:=by
 unfold Oper.wp execOp
 simp only [ho,resolve,invoke,builtin,Sem.run_bind,Sem.run_pure,Result.andThen_ok,List.map_toArray,List.map_cons,List.map_nil,hd,hs,hr]
 exact h
theorem wpList_copy4 (w : World) {ops : Array Oper} {rest : List Oper} {o : Oper} {a : Act} {Q : Exit → Act → World → Prop} (hgd : o.guard = none) (d s : Operand) (t t' : TypeId)
  (ho : o.op = .call { callee:=.builtin .copy,args:=#[d,s],argTypes:=#[t,t'] }) (v u : Value) (hd : a.eval d = v) (hs : a.eval s = u) {v' : Value} {w' : World}
  (hr : (Builtin.copy_ #[t,t'] o.type #[v,u]).run Tryz.prog w = .ok v' w') (h : wpList Tryz.prog ops Q rest (a.put o.dst v') w') : wpList Tryz.prog ops Q (o :: rest) a w :=
 wpList_plain hgd fun _ hK => wp_copy4 w d s t t' ho v u hd hs hr (hK _ _ h)
theorem step_copy4 {ops : Array Oper} {o : Oper} {a : Act} {w : World} {K : Act → World → Prop} {Q : Exit → Act → World → Prop} {E : Prop}
  (hg : o.guard = none) (d x : Operand) (dT sT : TypeId) (hop : o.op = Op.call { callee:=Callee.builtin Builtin.copy,args:=#[d,x],argTypes:=#[dT,sT] })
  (v u : Value) (hd : a.eval d = v) (hx : a.eval x = u) {v' : Value} {w' : World} (hr : (Builtin.copy_ #[dT,sT] o.type #[v,u]).run Tryz.prog w = .ok v' w') (hK : K (a.put o.dst v') w') :
  if Region.wanted o (yielded ops a.tmps) = true then Oper.wp Tryz.prog o a w K Q else E:=by
 have hw : Region.wanted o (yielded ops a.tmps) = true:=by simp [Region.wanted,hg]
 rw [if_pos hw]
 unfold Oper.wp
 simp [execOp,hop,resolve,invoke,builtin,hd,hx,hr,Result.andThen]
 exact hK
theorem wrap64_same {i : Int} (h0 : -9223372036854775808 ≤ i) (h : i ≤ 9223372036854775807) : IntKind.i64.wrap i = i:=by rw [IntKind.wrap_i64]; omega
/-- A row with an entry in its midst. -/
theorem reps_mid {w : World} {l : List S41} {inner cs : List Value} {x : S41} (hr : Reps (Rw w) 4 l inner) (hx : Rw w x cs) (hcs : cs.length = 4) (i : Nat) (hi : i ≤ l.length) : Reps (Rw w) 4 (l.take i ++ x :: l.drop i) (inner.take (i * 4) ++ (cs ++ inner.drop (i * 4))):=by
 have h1:=Kd.reps_take hr hi
 have h2 : Reps (Rw w) 4 (l.drop i) (inner.drop (i * 4)):=Kd.reps_drop hr
 have h3 : Reps (Rw w) 4 [x] ([] ++ cs):=(Reps.none (Rw w) 4).snoc hx hcs
 exact Kd.reps_append h1 (Kd.reps_append (ps:=[x]) h3 h2)
theorem own_close {w W2 : World} {g cap n : Nat} {cur2 : Array Value} {ll : List S41} {inner' : List Value} (hg : w.heap.size ≤ g) (hh2 : W2.heap[g]? = some (.cells cur2 41 (0,0))) (hsz : cur2.size = cap * 4) (hn : ll.length = n) (hnc : n ≤ cap) (hcap : cap ≤ maxLen)
  (ht : cur2.toList.take (n * 4) = inner') (hr : Reps (Rw w) 4 ll inner') : ReadsRow (Rw w) 4 W2 (some ⟨g,0,none⟩) n ll:=by
 have hown : OwnRow (Rw w) 41 4 W2 w.heap.size (.slice (some ⟨g,0,none⟩) n cap) ll:=⟨inner',⟨hr.1,Or.inr ⟨g,cap,cur2,by rw [hn],hg,hh2,by rw [hn]; exact hnc,hcap,hsz,by rw [hn]; exact ht⟩⟩,hr⟩
 obtain ⟨A',c',he,hc',hrr⟩:=OwnRow.reads hown
 injection he with e1 e2 e3
 rw [← e1,hn] at hrr
 exact hrr
theorem far_cells {g vb : Nat} {o : Array Value} {t : TypeId} (hne : vb ≠ g) : ∀ (vs : List Value) (p : Nat) (u : World),u.heap[vb]? = some (.cells o t (0,0)) → (u.setCells g p vs).heap[vb]? = some (.cells o t (0,0))
 | [],_,_,h => h
 | v :: r,p,u,h => far_cells hne r (p + 1) _ (blk_far h hne _)
set_option maxHeartbeats 8000000 in
set_option maxRecDepth 1000000 in
theorem insert_at (w : World) (l : List S41) (v : Value) (i : Nat) (x : S41) (W : World) (vb : Nat) (ca : Array Value) (hrow : Row w W v l) (hB : Below w.heap.size w W) (hi : i ≤ l.length) (hl : l.length ≤ 1000000000)
  (hv : W.heap[vb]? = some (.cells ca 41 (0,0))) (hx : Rw w x ca.toList) (hne : v.ownBlock ≠ some vb) :
  Calls Tryz.prog 93 #[v,.int .i64 i,.slice (some ⟨vb,0,none⟩) 1 1] W fun e W' => ∃ A c,e = .returned (.slice A (l.length + 1) c) ∧ l.length + 1 ≤ c ∧ ReadsRow (Rw w) 4 W' A (l.length + 1) (l.take i ++ x :: l.drop i) ∧ Below w.heap.size w W':=by
 have hcl : ca.toList.length = 4:=by obtain ⟨X,c,e,_⟩:=hx; rw [e]; rfl
 have hc1 : ∀ u ∈ ca.toList,u.oneCell' = true:=by obtain ⟨X,c,e,_⟩:=hx; rw [e]; exact rw_one
 have hvc : ∀ j u,ca.toList[j]? = some u → W.cell? ((⟨vb,0,none⟩ : Addr).add j) = some u:=by
  intro j u hu
  rw [Addr.add_lit,Nat.zero_add,blk_cell hv]
  simpa using hu
 obtain ⟨inner,⟨hlen,ho⟩,hr⟩:=hrow
 obtain ⟨n,hn⟩ : ∃ n,l.length = n:=⟨_,rfl⟩
 have HM:=Aside0.mk (reps_mid hr hx hcl i hi)
 have HML : Aside0 ((l.take i ++ x :: l.drop i).length = n + 1):=⟨by rw [List.length_append,List.length_cons,List.length_take,List.length_drop]; omega⟩
 have HIL : Aside0 (inner.length = n * 4):=⟨by rw [hlen,hn]⟩
 have HR:=Aside0.mk hr
 have HV:=Aside0.mk hv
 have HVC:=Aside0.mk hvc
 have HCL:=Aside0.mk hcl
 have HC1:=Aside0.mk hc1
 have HX:=Aside0.mk hx
 have HN:=Aside0.mk hn
 have HB:=Aside0.mk hB
 have HSZ:=Aside0.mk hB.size
 have HONE:=Aside0.mk (reps_one hr)
 obtain ⟨i0,hi0,hz0,hz1,hz2⟩:=info_parts info41
 have HI0:=Aside0.mk hi0
 have HZ0:=Aside0.mk hz0
 have HZ1:=Aside0.mk hz1
 have HZ2:=Aside0.mk hz2
 have N1 : Aside0 (n + 1 ≤ maxLen):=⟨by unfold maxLen; omega⟩
 have N2 : Aside0 ((n + 1) * 64 ≤ 140737488355328):=⟨Nat.le_trans (Nat.mul_le_mul_right 64 (show n + 1 ≤ 1000000001 by omega)) (by decide)⟩
 have mixed : Tryz.prog.follows Departure.mixedOrders = true:=by kernel_rfl
 have ho':=ho
 rw [hn] at ho'
 have OWN : Aside0 (W.ownsRow w.heap.size 41 4 v n inner):=⟨⟨by rw [hlen,hn],ho'⟩⟩
 rw [hn]
 rw [hn] at ho
 have hin : (i : Int) ≤ (n : Int):=by omega
 have hi00 : (0 : Int) ≤ (i : Int):=by omega
 by_cases hin2 : i = n
 ·have hend : ∀ (v' : Value) (w' : World),w'.ownsRow w.heap.size 41 4 v' (n + 1) (inner ++ ca.toList) → W.grownBy w' v.ownBlock → ∃ A c,v' = .slice A (n + 1) c ∧ n + 1 ≤ c ∧ ReadsRow (Rw w) 4 w' A (n + 1) (l.take i ++ x :: l.drop i) ∧ Below w.heap.size w w':=by
   intro v' w' hown hg
   have hi4 : inner.take (i * 4) ++ (ca.toList ++ inner.drop (i * 4)) = inner ++ ca.toList:=by
    rw [List.take_of_length_le (by rw [HIL.out,hin2]; exact Nat.le_refl _),List.drop_of_length_le (by rw [HIL.out,hin2]; exact Nat.le_refl _),List.append_nil]
   have hm:=HM.out
   rw [hi4] at hm
   have hor : OwnRow (Rw w) 41 4 w' w.heap.size v' (l.take i ++ x :: l.drop i):=⟨_,by rw [HML.out]; exact hown,hm⟩
   obtain ⟨A,c,rfl,hc,hrr⟩:=OwnRow.reads hor
   rw [HML.out] at hc hrr
   refine ⟨A,c,by rw [HML.out],hc,hrr,HB.out.grown hg HSZ.out ?_⟩
   intro k hk
   rcases OWN.out.2 with ⟨e,_⟩ | ⟨g,cap,cur,e,hg2,_⟩
   ·rw [e] at hk; simp [Value.ownBlock] at hk
   ·rw [e] at hk; simp [Value.ownBlock] at hk; omega
  have HEND:=Aside0.mk hend
  have heq : ((i : Int) == (n : Int)) = true:=by rw [beq_iff_eq]; omega
  rcases ho with ⟨rfl,h0⟩ | ⟨g,cap,cur,rfl,hg,hh,hnc,hcm,hcs,ht⟩
  ·have hn0 : n = 0:=by omega
   subst hn0
   subst hin2
   clear hr hx hcl hc1 hvc hv hlen hB hi0 hz0 hz1 hz2 hend
   go_enter Tryz.func93,Tryz.ntmps93
   go_wp2_with (at_builtin; refine wpList_append_own_at _ rfl _ _ 22 rfl w.heap.size 41 i0 _ 4 64 Tryz.underlying22 HI0.out HZ0.out HZ1.out HZ2.out rfl (by omega) _ _ _ rfl OWN.out ⟨vb,0,none⟩ 1 1 _ rfl (by rw [HCL.out]) HVC.out HC1.out N1.out N2.out HSZ.out ?_)
   all_goals
    intro v' w' hown hgr _ _
    obtain ⟨A,c,rfl,hc,hrr,hb⟩:=HEND.out v' w' hown hgr
    go_wp2
    go_ret
    exact ⟨A,c,rfl,hc,hrr,hb⟩
  ·subst hin2
   have hcap : cap ≤ 9223372036854775807:=hcm
   have hnc' : i ≤ cap:=by omega
   clear hr hx hcl hc1 hvc hv hlen hB hi0 hz0 hz1 hz2 hend hh ht hcs hcm hnc
   go_enter Tryz.func93,Tryz.ntmps93
   go_wp2_with (at_builtin; refine wpList_append_own_at _ rfl _ _ 22 rfl w.heap.size 41 i0 _ 4 64 Tryz.underlying22 HI0.out HZ0.out HZ1.out HZ2.out rfl (by omega) _ _ _ rfl OWN.out ⟨vb,0,none⟩ 1 1 _ rfl (by rw [HCL.out]) HVC.out HC1.out N1.out N2.out HSZ.out ?_)
   all_goals
    intro v' w' hown hgr _ _
    obtain ⟨A,c,rfl,hc,hrr,hb⟩:=HEND.out v' w' hown hgr
    go_wp2
    go_ret
    exact ⟨A,c,rfl,hc,hrr,hb⟩
 ·have hlt : i < n:=by omega
  rcases ho with ⟨rfl,h0⟩ | ⟨g,cap,cur,rfl,hg,hh,hnc,hcm,hcs,ht⟩
  ·omega
  ·have hgv : g ≠ vb:=fun e => hne (by rw [← e]; rfl)
   have hgv' : vb ≠ g:=hgv.symm
   have hcap : cap ≤ 9223372036854775807:=hcm
   have hnc' : (n : Int) ≤ (cap : Int):=by omega
   have heq : ((i : Int) == (n : Int)) = false:=by rw [beq_eq_false_iff_ne]; omega
   have HH:=Aside0.mk hh
   have HCS:=Aside0.mk hcs
   have HT : Aside0 (cur.toList.take (n * 4) = inner):=⟨ht⟩
   have HG:=Aside0.mk hg
   have hcell : ∀ p u,inner[p]? = some u → W.cell? ⟨g,p,none⟩ = some u:=by
    intro p u hp
    rw [← HT.out,List.getElem?_take] at hp
    split at hp
    ·exact (blk_cell HH.out p).trans (by simpa using hp)
    ·cases hp
   have HCELL:=Aside0.mk hcell
   have D1 : Aside0 ((inner.drop (i * 4)).length = (n - i) * 4):=⟨by rw [List.length_drop,HIL.out]; omega⟩
   have hw1 : IntKind.i64.wrap ((i : Int) + 1) = (i : Int) + 1:=wrap_small _ (by omega) (by omega)
   have hw2 : IntKind.i64.wrap ((n : Int) + 1) = (n : Int) + 1:=wrap_small _ (by omega) (by omega)
   have hb1 : (0 : Int) ≤ (i : Int) + 1:=by omega
   have hb2 : (0 : Int) ≤ (n : Int) + 1:=by omega
   have hb3 : (i : Int) + 1 ≤ (n : Int) + 1:=by omega
   have hb4 : (i : Int) ≤ (n : Int) + 1:=by omega
   have hb5 : (0 : Int) ≤ (n : Int):=by omega
   have hci : (cap = i) = False:=eq_false (by omega)
   by_cases hroom : n + 1 ≤ cap
   ·have hgt : decide ((cap : Int) < (n : Int) + 1) = false:=decide_eq_false (by omega)
    have hroom' : (n : Int) + 1 ≤ (cap : Int):=by omega
    have hci1 : (cap = i + 1) = False:=eq_false (by omega)
    have hsz4 : ∀ w,(Go.sizeOf 41).run Tryz.prog w = .ok 4 w:=fun w => by simp [Go.sizeOf,Go.typeInfo,hi0,hz1]
    have hov : ∀ lb cb,(callFunc 131 #[.slice (some ⟨vb,0,none⟩) 1 1,.slice (some ⟨g,(i + 1) * 4,none⟩) lb cb]).run Tryz.prog W = .ok (.value (.bool false)) W:=fun lb cb => by
     rw [run_callFunc_extern Tryz.func131 (by kernel_rfl) (by kernel_rfl) (by kernel_rfl) (e:=Extern.SlicesOverlaps.overlaps #[22,22] #[4]) (by kernel_rfl),
      Lib.run_overlaps_apart W 22 4 41 Tryz.underlying22 4 hsz4 ⟨vb,0,none⟩ ⟨g,(i + 1) * 4,none⟩ 1 1 lb cb hgv' 41 41 ca.size cur.size (by simp [World.shape?,HV.out]) (by simp [World.shape?,HH.out]) (by rw [HCS.out]; omega) (blk_frozen HV.out _) (blk_frozen HV.out _)]
     rfl
    have hcp1 : ∀ ty dc sc,(Builtin.copy_ #[22,22] ty #[.slice (some ⟨g,(i + 1) * 4,none⟩) (n - i) dc,.slice (some ⟨g,i * 4,none⟩) (n + 1 - i) sc]).run Tryz.prog W.drew = .ok (goInt (n - i)) (W.drew.setCells g ((i + 1) * 4) (inner.drop (i * 4))):=fun ty dc sc => by
     have h:=run_copy4 W.drew ty g ((i + 1) * 4) (n - i) dc ⟨g,i * 4,none⟩ (n + 1 - i) sc (inner.drop (i * 4)) (by rw [D1.out]; simp only [Nat.min_def]; split <;> omega)
      (fun j v hj => by rw [Addr.add_lit]; rw [List.getElem?_drop] at hj; exact HCELL.out _ v hj)
      (fun j hj => by rw [D1.out] at hj; rw [show W.drew.cell? ⟨g,(i + 1) * 4 + j,none⟩ = W.cell? ⟨g,(i + 1) * 4 + j,none⟩ from rfl,blk_cell HH.out,Array.getElem?_eq_getElem (by rw [HCS.out]; omega)]; rfl) (fun j hj => blk_frozen (w:=W.drew) HH.out _) (fun v hv => HONE.out v (List.mem_of_mem_drop hv))
     rw [h]
     congr 2
     simp only [Nat.min_def]; split <;> omega
    obtain ⟨W1,hW1⟩ : ∃ W1,W1 = W.drew.setCells g ((i + 1) * 4) (inner.drop (i * 4)):=⟨_,rfl⟩
    rw [← hW1] at hcp1
    obtain ⟨cur1,hh1,hcs1,hl1⟩:=setCells_row (inner.drop (i * 4)) ((i + 1) * 4) W.drew cur HH.out (by rw [D1.out,HCS.out]; omega)
    rw [← hW1] at hh1
    have hB1 : Below W.heap.size W.drew W1 → True:=fun _ => trivial
    have hv1 : W1.heap[vb]? = some (.cells ca 41 (0,0)):=by
     rw [hW1]
     exact far_cells hgv' _ _ _ HV.out
    have hcp2 : ∀ ty dc,(Builtin.copy_ #[22,22] ty #[.slice (some ⟨g,i * 4,none⟩) (n + 1 - i) dc,.slice (some ⟨vb,0,none⟩) 1 1]).run Tryz.prog W1 = .ok (goInt 1) (W1.setCells g (i * 4) ca.toList):=fun ty dc => by
     have h:=run_copy4 W1 ty g (i * 4) (n + 1 - i) dc ⟨vb,0,none⟩ 1 1 ca.toList (by rw [HCL.out]; simp only [Nat.min_def]; split <;> omega)
      (fun j v hj => by rw [Addr.add_lit,Nat.zero_add,blk_cell hv1]; simpa using hj)
      (fun j hj => by rw [HCL.out] at hj; rw [blk_cell hh1,Array.getElem?_eq_getElem (by rw [hcs1,HCS.out]; omega)]; rfl) (fun j hj => blk_frozen hh1 _) HC1.out
     rw [h]
     congr 2
     simp only [Nat.min_def]; split <;> omega
    have HH1:=Aside0.mk hh1
    have HCS1:=Aside0.mk hcs1
    have HL1:=Aside0.mk hl1
    have HW1:=Aside0.mk hW1
    clear hr hx hcl hc1 hvc hv hlen hB hi0 hz0 hz1 hz2 hh ht hcs hcm hnc hg hcell hh1 hcs1 hl1 hB1 hv1 hsz4 hW1
    go_enter Tryz.func93,Tryz.ntmps93
    go_wp2_with (simp only [hov])
    go_region_law_o (refine step_copy4 rfl _ _ 22 22 rfl _ _ (by simp [Act.eval,Act.put]) (by simp [Act.eval,Act.put]) (hcp1 _ _ _) ?_)
    go_wp2_with (at_builtin; refine wpList_copy4 _ rfl _ _ 22 22 rfl _ _ rfl rfl (hcp2 _ _) ?_)
    go_ret
    obtain ⟨cur2,hh2,hcs2,hl2⟩:=setCells_row ca.toList (i * 4) W1 cur1 HH1.out (by rw [HCL.out,HCS1.out,HCS.out]; omega)
    have hcl4 : cur.toList.length = cap * 4:=by rw [Array.length_toList,HCS.out]
    have htk : cur.toList.take (i * 4) = inner.take (i * 4):=by rw [← HT.out,List.take_take,Nat.min_eq_left (by omega)]
    have e1 : cur1.toList.take (i * 4) = inner.take (i * 4):=by
     rw [HL1.out,List.append_assoc,List.take_append_of_le_length (by rw [List.length_take,hcl4]; omega),List.take_take,Nat.min_eq_left (by omega),htk]
    have e2 : cur1.toList.drop (i * 4 + 4) = inner.drop (i * 4) ++ cur.toList.drop ((i + 1) * 4 + (inner.drop (i * 4)).length):=by
     rw [HL1.out,List.append_assoc,List.drop_left' (by rw [List.length_take,hcl4]; omega)]
    have htake : cur2.toList.take ((n + 1) * 4) = inner.take (i * 4) ++ (ca.toList ++ inner.drop (i * 4)):=by
     rw [hl2,HCL.out,e1,e2,← List.append_assoc,List.take_left' (by simp only [List.length_append,List.length_take,HIL.out,HCL.out,D1.out]; omega),List.append_assoc]
    exact ⟨_,_,rfl,hroom,own_close HG.out hh2 (by rw [hcs2,HCS1.out,HCS.out]) HML.out hroom hcap htake HM.out,below_cells HG.out _ _ _ (by rw [HW1.out]; exact below_cells HG.out _ _ _ (below_drew HB.out))⟩
   ·obtain rfl : cap = n:=by omega
    have hgt : decide ((cap : Int) < (cap : Int) + 1) = true:=decide_eq_true (by omega)
    have hz3 : (cap : Int) < (cap : Int) + 1:=by omega
    have hkk : (cap : Int) + 1 - (i : Int) = ((cap + 1 - i : Nat) : Int):=by omega
    have hik : i + (cap + 1 - i) = cap + 1:=by omega
    have hgw : g < W.heap.size:=blk_lt hh
    have hvw : vb < W.heap.size:=blk_lt hv
    have hil : (inner.take (i * 4)).length = i * 4:=by rw [List.length_take,HIL.out]; omega
    have hold : (Builtin.firstCells i0.size i (.slice (some ⟨g,0,none⟩) i cap)).run Tryz.prog W.drew = .ok (inner.take (i * 4)).toArray W.drew:=by
     rw [hz1]
     exact run_firstCells_some W.drew 4 i ⟨g,0,none⟩ i cap (inner.take (i * 4)) hil (fun j v hj => by
      rw [Addr.add_lit,Nat.zero_add]
      rw [List.getElem?_take] at hj
      split at hj
      ·exact HCELL.out j v hj
      ·cases hj)
    have hbg : Builtin.nextslicecap (cap + 1) cap * i0.bytes ≤ 281474976710656:=by
     rw [hz2]
     exact growslice_fits (show cap < cap + 1 by omega) N2.out
    have hk64 : (cap + 1 - i) * i0.bytes ≤ 281474976710656:=by
     rw [hz2]
     exact Nat.le_trans (Nat.mul_le_mul_right 64 (show cap + 1 - i ≤ cap + 1 by omega)) (Nat.le_trans N2.out (by decide))
    have hrz : ∀ ty,(Builtin.append_ #[22,3] ty #[.slice (some ⟨g,0,none⟩) i cap,.int .i64 ((cap : Int) + 1 - (i : Int))]).run Tryz.prog W =
      .ok (.slice (some ⟨W.heap.size,0,none⟩) (cap + 1) (grownCap W (cap + 1) cap 41)) (W.drew.alloc (.cells ((inner.take (i * 4)).toArray ++ Builtin.zeroCells (Value.agg #[.string ⟨#[]⟩,.int .i64 0,.slice none 0 0,.string ⟨#[]⟩]).cells (cap + 1 - i) ++ Builtin.zeroCells (Value.agg #[.string ⟨#[]⟩,.int .i64 0,.slice none 0 0,.string ⟨#[]⟩]).cells (grownCap W (cap + 1) cap 41 - (cap + 1))) 41)):=fun ty => by
     have h:=Lib.run_append_grow_zeros W 22 3 ty 41 i0 _ .i64 .i64 Tryz.underlying22 Tryz.underlying3 hi0 hz0 (some ⟨g,0,none⟩) i cap (inner.take (i * 4)) hold (cap + 1 - i) (by omega) (by omega) (by omega) (by omega) hk64 (by rw [hik]; exact hbg)
     rw [hik] at h
     rw [hkk]
     exact h
    obtain ⟨G,hG⟩ : ∃ G,G = grownCap W (cap + 1) cap 41:=⟨_,rfl⟩
    obtain ⟨ROW,hROW⟩ : ∃ ROW : Array Value,ROW = (inner.take (i * 4)).toArray ++ Builtin.zeroCells (Value.agg #[.string ⟨#[]⟩,.int .i64 0,.slice none 0 0,.string ⟨#[]⟩]).cells (cap + 1 - i) ++ Builtin.zeroCells (Value.agg #[.string ⟨#[]⟩,.int .i64 0,.slice none 0 0,.string ⟨#[]⟩]).cells (G - (cap + 1)):=⟨_,rfl⟩
    rw [← hG] at hrz
    rw [← hROW] at hrz
    have hGn : cap + 1 ≤ G:=by rw [hG]; exact grownCap_ge W _ _ _
    have hG63 : G ≤ 9223372036854775807:=by
     have:=grownCap_le_maxLen W (cap + 1) cap 41 N1.out
     rw [← hG] at this
     exact this
    have hRs : ROW.size = G * 4:=by
     rw [hROW]
     simp [Builtin.zeroCells,Value.cells,HIL.out]
     omega
    have hRt : ROW.toList.take (i * 4) = inner.take (i * 4):=by
     rw [hROW]
     simp only [Array.toList_append,List.toList_toArray,List.append_assoc]
     exact List.take_left' hil
    obtain ⟨W1,hW1⟩ : ∃ W1,W1 = W.drew.alloc (.cells ROW 41):=⟨_,rfl⟩
    have hh1 : W1.heap[W.heap.size]? = some (.cells ROW 41 (0,0)):=by rw [hW1]; exact blk_new _ _
    have hv1 : W1.heap[vb]? = some (.cells ca 41 (0,0)):=by rw [hW1]; exact blk_alloc (w:=W.drew) hv _
    have hg1 : W1.heap[g]? = some (.cells cur 41 (0,0)):=by rw [hW1]; exact blk_alloc (w:=W.drew) hh _
    rw [← hW1] at hrz
    have hcpA : ∀ (U : World),(∀ x,U.cell? x = W1.cell? x) → (∀ x,U.frozen? x = W1.frozen? x) → ∀ ty dc,(Builtin.copy_ #[22,22] ty #[.slice (some ⟨W.heap.size,i * 4,none⟩) (cap + 1 - i) dc,.slice (some ⟨vb,0,none⟩) 1 1]).run Tryz.prog U = .ok (goInt 1) (U.setCells W.heap.size (i * 4) ca.toList):=fun U hUc hUf ty dc => by
     have h:=run_copy4 U ty W.heap.size (i * 4) (cap + 1 - i) dc ⟨vb,0,none⟩ 1 1 ca.toList (by rw [HCL.out]; simp only [Nat.min_def]; split <;> omega)
      (fun j v hj => by rw [Addr.add_lit,Nat.zero_add,hUc,blk_cell hv1]; simpa using hj)
      (fun j hj => by rw [HCL.out] at hj; rw [hUc,blk_cell hh1,Array.getElem?_eq_getElem (by rw [hRs]; omega)]; rfl) (fun j hj => by rw [hUf]; exact blk_frozen hh1 _) HC1.out
     rw [h]
     congr 2
     simp only [Nat.min_def]; split <;> omega
    obtain ⟨cur1,hh2,hcs1,hl1⟩:=setCells_row ca.toList (i * 4) W1 ROW hh1 (by rw [HCL.out,hRs]; omega)
    have hgN : g ≠ W.heap.size:=by omega
    have hg2 : (W1.setCells W.heap.size (i * 4) ca.toList).heap[g]? = some (.cells cur 41 (0,0)):=far_cells hgN _ _ _ hg1
    have hcpB : ∀ (U : World),(∀ x,U.cell? x = (W1.setCells W.heap.size (i * 4) ca.toList).cell? x) → (∀ x,U.frozen? x = (W1.setCells W.heap.size (i * 4) ca.toList).frozen? x) → ∀ ty dc sc,(Builtin.copy_ #[22,22] ty #[.slice (some ⟨W.heap.size,(i + 1) * 4,none⟩) (cap - i) dc,.slice (some ⟨g,i * 4,none⟩) (cap - i) sc]).run Tryz.prog U = .ok (goInt (cap - i)) (U.setCells W.heap.size ((i + 1) * 4) (inner.drop (i * 4))):=fun U hUc hUf ty dc sc => by
     have h:=run_copy4 U ty W.heap.size ((i + 1) * 4) (cap - i) dc ⟨g,i * 4,none⟩ (cap - i) sc (inner.drop (i * 4)) (by rw [D1.out]; simp only [Nat.min_def]; split <;> omega)
      (fun j v hj => by
       rw [Addr.add_lit,hUc,blk_cell hg2]
       rw [List.getElem?_drop] at hj
       rw [← HT.out,List.getElem?_take] at hj
       split at hj
       ·simpa using hj
       ·cases hj)
      (fun j hj => by rw [D1.out] at hj; rw [hUc,blk_cell hh2,Array.getElem?_eq_getElem (by rw [hcs1,hRs]; omega)]; rfl) (fun j hj => by rw [hUf]; exact blk_frozen hh2 _) (fun v hv => HONE.out v (List.mem_of_mem_drop hv))
     rw [h]
     congr 2
     simp only [Nat.min_def]; split <;> omega
    have HH2:=Aside0.mk hh2
    have HCS1:=Aside0.mk hcs1
    have HL1:=Aside0.mk hl1
    have HRS:=Aside0.mk hRs
    have HRT:=Aside0.mk hRt
    have HIT:=Aside0.mk hil
    have HGW:=Aside0.mk hgw
    subst hW1
    have hE1 : ∀ x,((W.alloc (.cells ROW 41)).drew).cell? x = (W.drew.alloc (.cells ROW 41)).cell? x:=fun x => rfl
    have hE2 : ∀ x,((W.alloc (.cells ROW 41)).drew).frozen? x = (W.drew.alloc (.cells ROW 41)).frozen? x:=fun x => rfl
    have hF1 : ∀ x,(((W.alloc (.cells ROW 41)).drew.setCells W.heap.size (i * 4) ca.toList).drew).cell? x = ((W.drew.alloc (.cells ROW 41)).setCells W.heap.size (i * 4) ca.toList).cell? x:=fun x => rfl
    have hF2 : ∀ x,(((W.alloc (.cells ROW 41)).drew.setCells W.heap.size (i * 4) ca.toList).drew).frozen? x = ((W.drew.alloc (.cells ROW 41)).setCells W.heap.size (i * 4) ca.toList).frozen? x:=fun x => rfl
    have hGi : (G = i) = False:=eq_false (by omega)
    have hGi1 : (G = i + 1) = False:=eq_false (by omega)
    have hGc : (cap : Int) + 1 ≤ (G : Int):=by omega
    have hi3 : (i : Int) ≤ (cap : Int):=by omega
    have hdw : IntKind.i64.wrap ((cap : Int) + 1 - (i : Int)) = (cap : Int) + 1 - (i : Int):=wrap64_same (by omega) (by omega)
    clear hr hx hcl hc1 hvc hv hlen hB hi0 hz0 hz1 hz2 hh ht hcs hcm hnc hg hcell hh1 hcs1 hl1 hv1 hg1 hh2 hg2 hkk hik hold hbg hk64 hG hROW hRs hRt hil hgw hvw hgN hroom
    go_enter Tryz.func93,Tryz.ntmps93
    go_wp2_with (first
     | (at_builtin; refine Lib.wpList_append_run _ rfl _ _ _ _ rfl _ _ rfl rfl _ _ (hrz _) ?_)
     | (at_builtin; refine wpList_copy4 _ rfl _ _ 22 22 rfl _ _ rfl rfl (hcpA _ hE1 hE2 _ _) ?_)
     | (at_builtin; refine wpList_copy4 _ rfl _ _ 22 22 rfl _ _ rfl rfl (hcpB _ (fun _ => rfl) (fun _ => rfl) _ _ _) ?_))
    go_region_law_o (refine step_copy4 rfl _ _ 22 22 rfl (.slice (some ⟨W.heap.size,(i + 1) * 4,none⟩) (cap - i) (G - (i + 1))) (.slice (some ⟨g,i * 4,none⟩) (cap - i) (cap - i)) (by simp [Act.eval,Act.put]) (by simp [Act.eval,Act.put]) (hcpB _ hF1 hF2 _ _ _) ?_)
    go_wp2
    go_ret
    have hh2' : (((W.alloc (.cells ROW 41)).drew.setCells W.heap.size (i * 4) ca.toList).drew).heap[W.heap.size]? = some (.cells cur1 41 (0,0)):=HH2.out
    obtain ⟨cur2,hh3,hcs2,hl2⟩:=setCells_row (inner.drop (i * 4)) ((i + 1) * 4) (((W.alloc (.cells ROW 41)).drew.setCells W.heap.size (i * 4) ca.toList).drew) cur1 hh2' (by rw [D1.out,HCS1.out,HRS.out]; omega)
    have hrl : ROW.toList.length = G * 4:=by rw [Array.length_toList,HRS.out]
    have e1 : cur1.toList.take ((i + 1) * 4) = inner.take (i * 4) ++ ca.toList:=by
     rw [HL1.out,HRT.out,List.take_left' (by simp only [List.length_append,HIT.out,HCL.out]; omega)]
    have htake : cur2.toList.take ((cap + 1) * 4) = inner.take (i * 4) ++ (ca.toList ++ inner.drop (i * 4)):=by
     rw [hl2,e1,List.take_left' (by simp only [List.length_append,HIT.out,HCL.out,D1.out]; omega),List.append_assoc]
    have hcapG : G ≤ maxLen:=hG63
    exact ⟨_,_,rfl,hGn,own_close (Nat.le_trans HSZ.out (Nat.le_refl _)) hh3 (by rw [hcs2,HCS1.out,HRS.out]) HML.out hGn hcapG htake HM.out,below_cells HSZ.out _ _ _ (below_drew (below_cells HSZ.out _ _ _ (below_drew (below_alloc HB.out _))))⟩
end Go.Proofs.YthhohbidjhcjeaaGreatDoor.H
namespace Go.Proofs.YthhohbidjhcjeaaGreatDoor.H
open Go.RowKit Go.Shelf Go.Proofs.YthhohbidjhcjeaaGreatDoorW.PrintWords Go.Proofs.YthhohbidjhcjeaaGreatDoorW.PrintLast Go.Proofs.YthhohbidjhcjeaaGreatDoorW.PrintMore
open Go.Proofs.YthhohbidjhcjeaaGreatDoor.Q Go.Proofs.YthhohbidjhcjeaaGreatDoor.Pl
set_option linter.unusedVariables false
set_option linter.unusedSimpArgs false
theorem changing_calls (h : Nat) (w : World) : Calls Tryz.prog 54 #[.func (.func h) #[] #[]] w fun e w' =>
  e = .returned (.func (.func 100) #[] #[.pointer (some ⟨w.heap.size,0,none⟩)]) ∧ w'.heap[w.heap.size]? = some (.cells #[.func (.func h) #[] #[]] 76 (0,0)) ∧ Below w.heap.size w w':=by
 go_enter Tryz.func54,Tryz.ntmps54
 go_wp2
 go_ret
 exact ⟨rfl,blk_new _ _,below_alloc (Below.refl _ _) _⟩
end Go.Proofs.YthhohbidjhcjeaaGreatDoor.H
namespace Go.Proofs.YthhohbidjhcjeaaGreatDoor.H
open Go.RowKit Go.Shelf Go.Proofs.YthhohbidjhcjeaaGreatDoorW.PrintWords Go.Proofs.YthhohbidjhcjeaaGreatDoorW.PrintLast Go.Proofs.YthhohbidjhcjeaaGreatDoorW.PrintMore
open Go.Proofs.YthhohbidjhcjeaaGreatDoor.Q Go.Proofs.YthhohbidjhcjeaaGreatDoor.Pl
set_option linter.unusedVariables false
set_option linter.unusedSimpArgs false
/-- An entry's cells in a block. -/
structure Ent (cur : Array Value) (o : Nat) (x : S41) (X : Option Addr) (c : Nat) : Prop where
 c0 : cur[o]? = some (.string x.f0)
 c1 : cur[o + 1]? = some (.int .i64 x.f1)
 c2 : cur[o + 2]? = some (.slice X x.f2.length c)
 c3 : cur[o + 3]? = some (.string x.f3)
/-- The cells but for one entry's. -/
def SameBut (o : Nat) (cur cur' : Array Value) : Prop:=cur'.size = cur.size ∧ ∀ j,(j < o ∨ o + 4 ≤ j) → cur'[j]? = cur[j]?
/-- What is left of a change of an entry at a place in a block: it is the changed one, if it could be done. -/
def Chg (w : World) (p : S25) (x : S41) (g o : Nat) (cur : Array Value) (e : Ending) (W' : World) : Prop :=
 e = .returned (.bool (changeV x p).isSome) ∧ Below w.heap.size w W' ∧ ∃ cur',W'.heap[g]? = some (.cells cur' 41 (0,0)) ∧ SameBut o cur cur' ∧ ∀ y,changeV x p = some y → ∃ Y d,Ent cur' o y Y d ∧ Re W' y Y d
theorem ent_cells {W : World} {g o : Nat} {cur : Array Value} {x : S41} {X : Option Addr} {c : Nat} (hg : W.heap[g]? = some (.cells cur 41 (0,0))) (h : Ent cur o x X c) :
  W.cell? ⟨g,o,none⟩ = some (.string x.f0) ∧ W.cell? ⟨g,o + 1,none⟩ = some (.int .i64 x.f1) ∧ W.cell? ⟨g,o + 2,none⟩ = some (.slice X x.f2.length c) ∧ W.cell? ⟨g,o + 3,none⟩ = some (.string x.f3) :=
 ⟨(blk_cell hg _).trans h.c0,(blk_cell hg _).trans h.c1,(blk_cell hg _).trans h.c2,(blk_cell hg _).trans h.c3⟩
theorem same_set (o k : Nat) (hk : k < 4) (cur : Array Value) (u : Value) : SameBut o cur (cur.setIfInBounds (o + k) u):=by
 refine ⟨by simp,fun j hj => ?_⟩
 rw [Array.getElem?_setIfInBounds_ne (by omega)]
theorem ent_set3 {cur : Array Value} {o : Nat} {x : S41} {X : Option Addr} {c : Nat} (h : Ent cur o x X c) (s : ByteArray) : Ent (cur.setIfInBounds (o + 3) (.string s)) o { x with f3:=s } X c:=by
 refine ⟨?_,?_,?_,?_⟩
 ·rw [Array.getElem?_setIfInBounds_ne (by omega)]; exact h.c0
 ·rw [Array.getElem?_setIfInBounds_ne (by omega)]; exact h.c1
 ·rw [Array.getElem?_setIfInBounds_ne (by omega)]; exact h.c2
 ·have : o + 3 < cur.size:=(Array.getElem?_eq_some_iff.1 h.c3).1
  rw [Array.getElem?_setIfInBounds_self_of_lt this]
theorem ent_set2 {cur : Array Value} {o : Nat} {x : S41} {X : Option Addr} {c : Nat} (h : Ent cur o x X c) (l : List ByteArray) (Y : Option Addr) (d : Nat) : Ent (cur.setIfInBounds (o + 2) (.slice Y l.length d)) o { x with f2:=l } Y d:=by
 refine ⟨?_,?_,?_,?_⟩
 ·rw [Array.getElem?_setIfInBounds_ne (by omega)]; exact h.c0
 ·rw [Array.getElem?_setIfInBounds_ne (by omega)]; exact h.c1
 ·have : o + 2 < cur.size:=(Array.getElem?_eq_some_iff.1 h.c2).1
  rw [Array.getElem?_setIfInBounds_self_of_lt this]
 ·rw [Array.getElem?_setIfInBounds_ne (by omega)]; exact h.c3
set_option maxHeartbeats 4000000 in
set_option maxRecDepth 1000000 in
theorem data_at (w : World) (p : S25) (v5 v6 : Value) (x : S41) (X : Option Addr) (c g o : Nat) (cur : Array Value) (W : World) (h5 : v5.oneCell' = true) (h6 : v6.oneCell' = true) (h9 : p.f0 = 9)
  (hB : Below w.heap.size w W) (hg0 : w.heap.size ≤ g) (hg : W.heap[g]? = some (.cells cur 41 (0,0))) (hx : Ent cur o x X c) (rx : Re w x X c) :
  Calls Tryz.prog 57 #[.pointer (some ⟨g,o,none⟩),.agg #[.int .i64 p.f0,.string p.f1,.string p.f2,.string p.f3,.int .i64 p.f4,v5,v6]] W (Chg w p x g o cur):=by
 have hgw : g < W.heap.size:=blk_lt hg
 obtain ⟨b0,b1,b2,b3,b4,b5,b6⟩:=cells7 (blk_new W (.cells #[.int .i64 p.f0,.string p.f1,.string p.f2,.string p.f3,.int .i64 p.f4,v5,v6] 25))
 obtain ⟨c0,c1,c2,c3⟩:=ent_cells (blk_alloc hg (.cells #[.int .i64 p.f0,.string p.f1,.string p.f2,.string p.f3,.int .i64 p.f4,v5,v6] 25)) hx
 have f3:=blk_frozen (blk_alloc hg (.cells #[.int .i64 p.f0,.string p.f1,.string p.f2,.string p.f3,.int .i64 p.f4,v5,v6] 25)) (o + 3)
 have hgne : (g = W.heap.size) = False:=eq_false (by omega)
 have hc : changeV x p = if x.f3 = p.f3 then some { x with f3:=p.f2 } else none:=by unfold changeV; rw [if_neg (by omega),if_neg (by omega)]
 obtain ⟨r,hr⟩ : ∃ r,(x.f3.toList == p.f3.toList) = r:=⟨_,rfl⟩
 have hsome : Aside0 ((changeV x p).isSome = r):=⟨by
  rw [hc,← hr]
  by_cases k : x.f3 = p.f3
  ·rw [if_pos k,k]; simp
  ·rw [if_neg k]
   have : ¬ x.f3.toList = p.f3.toList:=fun e => k (toList_inj e)
   simp [this]⟩
 have hend : ∀ W',W' = ((W.setCell ⟨g,o + 3,none⟩ (.string p.f2)).alloc (.cells #[.int .i64 p.f0,.string p.f1,.string p.f2,.string p.f3,.int .i64 p.f4,v5,v6] 25)).drew → Chg w p x g o cur (.returned (.bool r)) W':=by
  rintro W' rfl
  have hb : Below w.heap.size w ((W.setCell ⟨g,o + 3,none⟩ (.string p.f2)).alloc (.cells #[.int .i64 p.f0,.string p.f1,.string p.f2,.string p.f3,.int .i64 p.f4,v5,v6] 25)).drew:=below_drew (below_alloc (below_set hB hg0) _)
  refine ⟨by rw [hsome.out],hb,_,blk_drew (blk_alloc (blk_set hg (o + 3) _) _),same_set o 3 (by omega) _ _,fun y hy => ?_⟩
  rw [hc] at hy
  split at hy
  ·rw [← Option.some.inj hy]
   exact ⟨X,c,ent_set3 hx _,⟨(rx.later hb).l,(rx.later hb).g⟩⟩
  ·cases hy
 have HEND:=Aside0.mk hend
 clear hend hc hx rx hB hg hg0 h9
 go_enter Tryz.func57,Tryz.ntmps57
 go_wp2
 go_region_held3 (fun U => U.cell? ⟨g,o + 3,none⟩ = some (.string x.f3) ∧ U.cell? ⟨W.heap.size,3,none⟩ = some (.string p.f3)) (exact ⟨c3,b3⟩) (fail)
 go_wp2
 go_ret
 exact HEND.out _ rfl
end Go.Proofs.YthhohbidjhcjeaaGreatDoor.H
namespace Go.Proofs
open Go.Shelf
def Tryz.growS_ren : Go.Shelf.Ren:=⟨fun | 4 => 160 | n => n,fun | 22 => 23 | 25 => 9 | 3 => 3 | 4 => 4 | 9 => 9 | 20 => 20 | 0 => 0 | n => n,fun | n => n⟩
theorem Tryz.growS : Go.Proofs.Lays8.n4 Tryz.prog Tryz.growS_ren:={
 mixed:=by kernel_rfl
 f4:=⟨Tryz.f160.name,by decide,Tryz.func160.trans (congrArg some (by kernel_rfl))⟩
 t0:=Tryz.underlying0
 a0:=Tryz.isAgg0
 z0:=Tryz.sizeOf0
 v0:=Tryz.zeroValue0
 t3:=Tryz.underlying3
 a3:=Tryz.isAgg3
 z3:=Tryz.sizeOf3
 v3:=Tryz.zeroValue3
 t4:=Tryz.underlying4
 a4:=Tryz.isAgg4
 z4:=Tryz.sizeOf4
 v4:=Tryz.zeroValue4
 t9:=Tryz.underlying9
 a9:=Tryz.isAgg9
 z9:=Tryz.sizeOf9
 v9:=Tryz.zeroValue9
 t20:=Tryz.underlying20
 a20:=Tryz.isAgg20
 z20:=Tryz.sizeOf20
 v20:=Tryz.zeroValue20
 t22:=Tryz.underlying23
 a22:=Tryz.isAgg23
 z22:=Tryz.sizeOf23
 v22:=Tryz.zeroValue23 }
end Go.Proofs
namespace Go.Proofs.YthhohbidjhcjeaaGreatDoor.H
open Go.RowKit Go.Proofs.YthhohbidjhcjeaaGreatDoorW.PrintWords Go.Proofs.YthhohbidjhcjeaaGreatDoorW.PrintLast Go.Proofs.YthhohbidjhcjeaaGreatDoorW.PrintMore
open Go.Proofs.YthhohbidjhcjeaaGreatDoor.Q Go.Proofs.YthhohbidjhcjeaaGreatDoor.Pl
set_option linter.unusedSimpArgs false
set_option linter.unusedVariables false
theorem infoS : (Tryz.prog.info? 9).map (fun i => (i.zero,i.size,i.bytes)) = some (some (.string ⟨#[]⟩),1,16):=by kernel_rfl
/-- A text's cells. -/
def Rs (x : ByteArray) (cs : List Value) : Prop:=cs = [.string x]
/-- A row of texts of one's own. -/
def RowS (w W : World) (v : Value) (xs : List ByteArray) : Prop:=OwnRow Rs 9 1 W w.heap.size v xs
theorem RowS.below {w W W' : World} {v : Value} {xs : List ByteArray} (h : RowS w W v xs) (hb : Below W.heap.size W W') : RowS w W' v xs:=OwnRow.below h hb
theorem RowS.slice {w W : World} {v : Value} {xs : List ByteArray} (h : RowS w W v xs) : ∃ A c,v = .slice A xs.length c ∧ xs.length ≤ c:=OwnRow.slice_ h
theorem rowS_nil (w W : World) : RowS w W (.slice none 0 0) []:=OwnRow.none_ _ _ _ _ _
theorem RowS.C {w W : World} {v : Value} {xs : List ByteArray} (h : RowS w W v xs) : ∃ A c,v = .slice A xs.length c ∧ xs.length ≤ c ∧ Kd.string.C W A xs.length xs:=by
 obtain ⟨A,c,rfl,hc,hr⟩:=OwnRow.reads h
 exact ⟨A,c,rfl,hc,ReadsRow.imp_ hr (Below.refl _ _) (fun p cl h => h)⟩
theorem rsS_one {ps : List ByteArray} {inner : List Value} (h : Reps Rs 1 ps inner) : ∀ u ∈ inner,u.oneCell' = true:=by
 intro u hu
 obtain ⟨j,hj,rfl⟩:=List.getElem_of_mem hu
 have hl:=h.1
 have hk:=h.2 j _ (List.getElem?_eq_getElem (show j < ps.length by omega))
 have hm : inner[j] ∈ (inner.drop (j * 1)).take 1:=by
  refine List.mem_of_getElem? (i:=0) ?_
  rw [List.getElem?_take_of_lt (by omega),List.getElem?_drop]
  simp [List.getElem?_eq_getElem hj]
 rw [hk,List.mem_singleton] at hm
 rw [hm]; rfl
set_option maxHeartbeats 4000000 in
theorem growS_at (w : World) (n : Nat) (W : World) (hB : Below w.heap.size w W) (hn : n ≤ 1256584717458) :
  Calls Tryz.prog 160 #[.slice none 0 0,.int .i64 (n : Int)] W fun e W' => ∃ v,e = .returned v ∧ RowS w W' v [] ∧ Below w.heap.size w W':=by
 rcases Nat.eq_zero_or_pos n with rfl | hp
 ·refine (Any8.slices_Grow_room Tryz.growS none 0 0 0 W (Nat.le_refl _) (by decide) (by decide) (Nat.le_refl _)).mono ?_
  rintro e W' ⟨rfl,rfl⟩
  exact ⟨_,rfl,rowS_nil _ _,hB⟩
 ·obtain ⟨i0,hi,hz0,hz1,hz2⟩:=info_parts infoS
  refine (Any8.slices_Grow_grow Tryz.growS i0 _ hi hz0 (by omega) none 0 0 n [] W (Nat.le_refl _) (by omega) (by rw [hz2,Nat.zero_add]; exact Nat.le_trans (Nat.mul_le_mul_right 16 hn) (by decide)) (by omega) (by simp) (fun _ => rfl) (fun a h => by cases h)).mono ?_
  rintro e W' ⟨rfl,rfl⟩
  refine ⟨_,rfl,⟨[],⟨by simp,Or.inr ⟨W.heap.size,_,_,rfl,hB.size,blk_new W.drew _,Nat.zero_le _,grownCap_le_maxLen _ _ _ _ (by unfold maxLen; omega),?_,by simp⟩⟩,Reps.none _ _⟩,below_alloc hB.drew _⟩
  have hg:=grownCap_ge W (0 + n) 0 (Tryz.growS_ren.t 25)
  simp only [Array.size_append,size_zeroCells]
  show 0 + (0 + n - 0) * 1 + (grownCap W (0 + n) 0 (Tryz.growS_ren.t 25) - (0 + n)) * 1 = grownCap W (0 + n) 0 (Tryz.growS_ren.t 25) * 1
  generalize grownCap W (0 + n) 0 (Tryz.growS_ren.t 25) = g at hg
  omega
def flatS (rs : List (Option Addr × Nat × List ByteArray)) : List ByteArray:=rs.flatMap (fun r => r.2.2)
theorem flat_take (rs : List (Option Addr × Nat × List ByteArray)) (i : Nat) (hi : i < rs.length) : flatS (rs.take (i + 1)) = flatS (rs.take i) ++ rs[i].2.2:=by
 unfold flatS
 rw [List.take_succ_eq_append_getElem hi,List.flatMap_append]
 simp
theorem flat_le (rs : List (Option Addr × Nat × List ByteArray)) (i : Nat) : (flatS (rs.take i)).length ≤ (flatS rs).length:=by
 unfold flatS
 conv => rhs; rw [← List.take_append_drop i rs,List.flatMap_append,List.length_append]
 omega
theorem reps_app {α : Type} {R : α → List Value → Prop} {size : Nat} {ps qs : List α} {cs ds : List Value} (h : Reps R size ps cs) (k : Reps R size qs ds) : Reps R size (ps ++ qs) (cs ++ ds):=by
 refine ⟨by rw [List.length_append,h.1,k.1,List.length_append,Nat.add_mul],fun j p hp => ?_⟩
 have hl:=h.1
 rcases Nat.lt_or_ge j ps.length with hj | hj
 ·rw [List.getElem?_append_left hj] at hp
  have hm : (j + 1) * size ≤ ps.length * size:=Nat.mul_le_mul_right _ hj
  rw [Nat.add_mul,Nat.one_mul] at hm
  rw [List.drop_append_of_le_length (by omega),List.take_append_of_le_length (by rw [List.length_drop]; omega)]
  exact h.2 j p hp
 ·rw [List.getElem?_append_right hj] at hp
  have hm : j * size = ps.length * size + (j - ps.length) * size:=by rw [← Nat.add_mul,Nat.add_sub_cancel' hj]
  rw [hm,← hl,List.drop_append]
  simp only [Nat.le_add_right,List.drop_eq_nil_of_le,List.nil_append,Nat.add_sub_cancel_left]
  exact k.2 _ p hp
set_option maxHeartbeats 4000000 in
set_option maxRecDepth 100000 in
theorem concatS_at (rs : List (Option Addr × Nat × List ByteArray)) (g c : Nat) (W : World) (hg : ∀ j r,rs[j]? = some r → W.cell? ⟨g,j,none⟩ = some (.slice r.1 r.2.2.length r.2.1)) (hr : ∀ r ∈ rs,ReadsRow Rs 1 W r.1 r.2.2.length r.2.2) (hn : (flatS rs).length ≤ 1256584717458) (hrs : rs.length ≤ 1000) :
  Calls Tryz.prog 136 #[.slice (some ⟨g,0,none⟩) rs.length c] W fun e W' => ∃ v,e = .returned v ∧ RowS W W' v (flatS rs) ∧ Below W.heap.size W W':=by
 replace hg:=Aside0.mk hg
 replace hr:=Aside0.mk hr
 go_enter Tryz.func136,Tryz.ntmps136
 go_wp2
 go_loopg [3,11] rs.length (fun kq v3 v11 w' => ∃ (i : Nat),v11 = .int .i64 (i : Int) ∧ v3 = .int .i64 ((flatS (rs.take i)).length : Int) ∧ Aside0 (i + kq = rs.length) ∧ W = w')
 case atStart => exact ⟨0,rfl,rfl,⟨by omega⟩,rfl⟩
 case round =>
  obtain ⟨i,rfl,rfl,hk,rfl⟩:=hrel
  by_cases hi : i < rs.length
  ·have c1b : decide ((i : Int) < (rs.length : Int)) = true:=decide_eq_true (by omega)
   have i0 : (0 : Int) ≤ (i : Int):=by omega
   have i1 : (i : Int) < (rs.length : Int):=by omega
   have hx:=hg.out i _ (List.getElem?_eq_getElem hi)
   have hf:=flat_take rs i hi
   have hle:=flat_le rs (i + 1)
   rw [hf,List.length_append] at hle
   have hwi : IntKind.i64.wrap ((i : Int) + 1) = (i : Int) + 1:=wrap_small _ (by omega) (by omega)
   have hws : IntKind.i64.wrap (((flatS (rs.take i)).length : Int) + (rs[i].2.2.length : Int)) = ((flatS (rs.take i)).length : Int) + (rs[i].2.2.length : Int):=wrap_small _ (by omega) (by omega)
   have hneg : decide (((flatS (rs.take i)).length : Int) + (rs[i].2.2.length : Int) < 0) = false:=decide_eq_false (by omega)
   replace hf:=Aside0.mk hf
   clear hle
   go_wp2
   go_roundg (rs.length - (i + 1))
   case measure => have:=hk.out; omega
   case rel => exact ⟨i + 1,by simp,by rw [hf.out,List.length_append]; simp,⟨by omega⟩,rfl⟩
  ·have c1b : decide ((i : Int) < (rs.length : Int)) = false:=decide_eq_false (by omega)
   have hil : i = rs.length:=by have:=hk.out; omega
   have hfl : flatS (rs.take i) = flatS rs:=by rw [hil,List.take_length]
   rw [hfl]
   clear hfl hk
   go_wp2_with (fail)
   refine (growS_at W (flatS rs).length W (Below.refl _ _) hn).mono ?_
   rintro e w2 ⟨v,rfl,hR,hB⟩
   replace hR:=Aside0.mk hR
   replace hB:=Aside0.mk hB
   go_wp2
   obtain ⟨i0',hi',hz0,hz1,hz2⟩:=info_parts infoS
   replace hi':=Aside0.mk hi'
   replace hz0:=Aside0.mk hz0
   replace hz1:=Aside0.mk hz1
   replace hz2:=Aside0.mk hz2
   go_loopg [6,27] rs.length (fun kq v6 v27 w' => ∃ (i : Nat),v27 = .int .i64 (i : Int) ∧ Aside0 (i + kq = rs.length) ∧ Aside0 (RowS W w' v6 (flatS (rs.take i))) ∧ Aside0 (Below W.heap.size W w'))
   case atStart => exact ⟨0,rfl,⟨by omega⟩,hR,hB⟩
   case round =>
    clear i hi c1b hil hR hB
    obtain ⟨i,rfl,hk,hR,hB⟩:=hrel
    by_cases hi : i < rs.length
    ·have c1b : decide ((i : Int) < (rs.length : Int)) = true:=decide_eq_true (by omega)
     have i0 : (0 : Int) ≤ (i : Int):=by omega
     have i1 : (i : Int) < (rs.length : Int):=by omega
     have hx:=pw_cell_below hB.out (hg.out i _ (List.getElem?_eq_getElem hi))
     have hrr:=hr.out _ (List.getElem_mem hi)
     have hf:=flat_take rs i hi
     have hle:=flat_le rs (i + 1)
     rw [hf,List.length_append] at hle
     have hwi : IntKind.i64.wrap ((i : Int) + 1) = (i : Int) + 1:=wrap_small _ (by omega) (by omega)
     replace hf:=Aside0.mk hf
     obtain ⟨⟨A,c2,xs⟩,hrx⟩ : ∃ r,r = rs[i]:=⟨_,rfl⟩
     rw [← hrx] at hx hrr hf hle
     clear hrx
     simp only at hx hrr hf hle
     cases A with
     | none =>
      have hl0 : xs = []:=List.eq_nil_of_length_eq_zero (by
       rcases Nat.eq_zero_or_pos xs.length with h0 | h0
       ·exact h0
       ·obtain ⟨ad,he,_⟩:=hrr.2.2 h0
        cases he)
      subst hl0
      obtain ⟨A6,c6,rfl,hc6⟩:=hR.out.slice
      clear hrr hle
      go_wp2
      all_goals (try simp only [Sem.run_pure,Result.andThen_ok])
      all_goals go_wp2
      all_goals
       go_roundg (rs.length - (i + 1))
       case measure => have:=hk.out; omega
       case rel => exact ⟨i + 1,by simp,⟨by omega⟩,⟨by rw [hf.out,List.append_nil]; exact hR.out⟩,hB⟩
     | some ad =>
      obtain ⟨inner,hri,hci⟩:=hrr.inner_
      obtain ⟨inner6,hown,hr6⟩:=hR.out
      have h1:=Aside0.mk (rsS_one hri)
      have hl:=Aside0.mk hri.1
      have hn1 : Aside0 ((flatS (rs.take i)).length + xs.length ≤ maxLen):=⟨by unfold maxLen; omega⟩
      have hn2 : Aside0 (((flatS (rs.take i)).length + xs.length) * 16 ≤ 140737488355328):=⟨Nat.le_trans (Nat.mul_le_mul_right 16 (Nat.le_trans hle hn)) (by decide)⟩
      replace hown:=Aside0.mk hown
      replace hr6:=Aside0.mk hr6
      replace hri:=Aside0.mk hri
      replace hci:=Aside0.mk hci
      clear hrr hle
      go_wp2_with (at_builtin; refine wpList_append_own_at _ rfl _ _ 23 rfl W.heap.size 9 i0' _ 1 16 Tryz.underlying23 hi'.out hz0.out hz1.out hz2.out rfl (by omega) _ _ _ rfl hown.out ad xs.length c2 inner rfl hl.out ?qc2 h1.out hn1.out hn2.out hB.out.size ?_)
      case qc2 => exact fun j u hj => pw_cell_below hB.out (hci.out j u hj)
      intro v' w1 hown1 hgrow hnil hblk
      have hB1 : Aside0 (Below W.heap.size W w1):=⟨hB.out.grown hgrow hB.out.size (by
       intro k hk
       rcases hown.out.2 with ⟨rfl,_⟩ | ⟨g6,cap,cur,rfl,hb,_⟩
       ·cases hk
       ·simp [Value.ownBlock] at hk; omega)⟩
      have hR1 : Aside0 (RowS W w1 v' (flatS (rs.take (i + 1)))):=⟨by
       rw [hf.out]
       exact ⟨inner6 ++ inner,by rw [List.length_append]; exact hown1,reps_app hr6.out hri.out⟩⟩
      clear hown1 hgrow hnil hblk
      go_wp2
      go_roundg (rs.length - (i + 1))
      case measure => have:=hk.out; omega
      case rel => exact ⟨i + 1,by simp,⟨by omega⟩,hR1,hB1⟩
    ·have c1b : decide ((i : Int) < (rs.length : Int)) = false:=decide_eq_false (by omega)
     have hil : i = rs.length:=by have:=hk.out; omega
     have hfl : Aside0 (flatS (rs.take i) = flatS rs):=⟨by rw [hil,List.take_length]⟩
     clear hk
     go_wp2
     go_ret
     exact ⟨_,rfl,by rw [← hfl.out]; exact hR.out,hB.out⟩
end Go.Proofs.YthhohbidjhcjeaaGreatDoor.H
namespace Go.Proofs.YthhohbidjhcjeaaGreatDoor.H
open Go.RowKit Go.Shelf Go.Proofs.YthhohbidjhcjeaaGreatDoorW.PrintWords Go.Proofs.YthhohbidjhcjeaaGreatDoorW.PrintLast Go.Proofs.YthhohbidjhcjeaaGreatDoorW.PrintMore
open Go.Proofs.YthhohbidjhcjeaaGreatDoor.Q Go.Proofs.YthhohbidjhcjeaaGreatDoor.Pl Go.Proofs.YthhohbidjhcjeaaGreatDoor.RB
set_option linter.unusedVariables false
set_option linter.unusedSimpArgs false
/-- A line's pieces, and whether each is a token. -/
def pieceP (r : List UInt8) : ByteArray × Bool:=(⟨r.toArray⟩,match r.head? with | some c => inU c | none => false)
def piecesP (s : ByteArray) : List (ByteArray × Bool):=(runs s.data.toList).map pieceP
theorem piecesP_nil : piecesP ⟨#[]⟩ = []:=rfl
/-- The first run of a text. -/
theorem runs_head {s : List UInt8} {n : Nat} {b : Bool} (hn : 0 < n) (hl : n ≤ s.length) (hu : ∀ c ∈ s.take n,inU c = b) (hd : ∀ c,s[n]? = some c → inU c ≠ b) : runs s = s.take n :: runs (s.drop n):=by
 have h : Uni b (s.take n):=⟨fun e => by have:=congrArg List.length e; rw [List.length_take,List.length_nil] at this; omega,hu⟩
 conv => lhs; rw [← List.take_append_drop n s]
 refine runs_cons h ?_
 intro r' hr'
 cases hs : runs (s.drop n) with
 | nil => rw [hs] at hr'; cases hr'
 | cons r rest =>
  rw [hs] at hr'
  rw [List.head?_cons,Option.mem_some_iff] at hr'
  subst hr'
  have ha:=alt_runs (s.drop n)
  rw [hs] at ha
  obtain ⟨b',hub,_,_⟩:=ha
  have hne:=hub.1
  obtain ⟨c,t,rfl⟩:=List.exists_cons_of_ne_nil hne
  have hc : s[n]? = some c:=by
   have h1:=runs_flat (s.drop n)
   rw [hs] at h1
   have h2 : (s.drop n)[0]? = some c:=by rw [← h1]; rfl
   rw [List.getElem?_drop] at h2
   simpa using h2
  have h3:=hub.2 c (by simp)
  have h4:=hd c hc
  rw [h3] at h4
  have : b' = !b:=by cases b <;> cases b' <;> simp_all
  rw [← this]; exact hub
theorem piecesP_head {s : ByteArray} {n : Nat} {b : Bool} (hn : 0 < n) (hl : n ≤ s.size) (hu : ∀ c ∈ s.data.toList.take n,inU c = b) (hd : ∀ c,s.data.toList[n]? = some c → inU c ≠ b) : piecesP s = (s.extract 0 n,b) :: piecesP (s.extract n s.size):=by
 unfold piecesP
 have hl' : n ≤ s.data.toList.length:=by rw [dlen]; exact hl
 rw [runs_head hn hl' hu hd,List.map_cons]
 have e1 : (s.extract n s.size).data.toList = s.data.toList.drop n:=by rw [extract_data,List.take_of_length_le (by rw [dlen]; exact Nat.le_refl _)]
 rw [e1]
 congr 1
 unfold pieceP
 congr 1
 ·exact data_inj (by rw [extract_data,List.drop_zero])
 ·cases hs : s.data.toList.take n with
  | nil => have:=congrArg List.length hs; rw [List.length_take,List.length_nil] at this; omega
  | cons c t => rw [List.head?_cons]; exact hu c (by rw [hs]; simp)
set_option maxRecDepth 100000 in
set_option maxHeartbeats 4000000 in
theorem pieces_gives (n : Nat) (hn : 1 ≤ n) (B : Nat) (s : ByteArray) (w : World) (hs : s.size ≤ 140737488355328) (bs : Boxed w B 9 (.string s)) :
  SeqG Fence.wide n Tryz.prog 161 #[.pointer (some ⟨B,0,none⟩)] (fun y : ByteArray × Bool => #[.string y.1,.bool y.2]) (fun W W' => W'.heap[B]? = W.heap[B]?) (fun r => r = B)
   (fun ys => ys = piecesP s) (fun pre => pre <+: piecesP s) (fun pre x => pre ++ [x] <+: piecesP s) w:=by
 intro l J Jx W hW hJ hJx hY h0
 replace bs : Boxed W B 9 (.string s):=(hW.block _ bs.lt).trans bs
 clear hW
 show CallsIn Fence.wide n Tryz.prog 161 #[.func (.yield l) #[] #[],.pointer (some ⟨B,0,none⟩)] W _
 refine callsIn_of_wp Tryz.func161 rfl trivial ?_ rfl
 simp only [Tryz.ntmps161,List.size_toArray,List.length_cons,List.length_nil,Nat.reduceAdd,Nat.reduceSub,Array.replicate_succ,Array.replicate_zero,List.push_toArray,List.append_toArray,List.nil_append,List.cons_append]
 gi_wp2
 gi_loopw [] (fun wr => ∃ (cur : ByteArray) (pre : List (ByteArray × Bool)),J pre wr ∧ Boxed wr B 9 (.string cur) ∧ cur.size ≤ 140737488355328 ∧ pre ++ piecesP cur = piecesP s)
  (fun wr => sizeAt B wr)
 case atStart => exact ⟨s,[],h0,bs,hs,rfl⟩
 case round =>
  clear bs h0 hs
  obtain ⟨cur,pre,hJ0,bs,hc,hpc⟩:=hrel
  have cs:=bs.cell
  have fs:=bs.frozen
  by_cases hz : cur.size = 0
  ·have hcur : cur = ⟨#[]⟩:=data_inj (by
    have h1 : cur.data.toList.length = 0:=by rw [dlen]; exact hz
    exact List.length_eq_zero_iff.mp h1)
   subst hcur
   have HPC:=Lib.hid hpc
   clear hpc
   gi_wp2
   go_end0
   exact ⟨⟨_,rfl⟩,.inl ⟨pre,by rw [← HPC.out,piecesP_nil,List.append_nil],hJ0⟩⟩
  ·have hne : (cur.toList != []) = true:=by
    rw [bne_iff_ne]
    intro e
    have:=size_toList cur
    rw [e] at this
    simp at this
    omega
   have hne2 : (cur.toList == []) = false:=by simpa using hne
   have hp0 : (0 : Int) < (cur.size : Int):=by omega
   have HPC:=Lib.hid hpc
   have hIn:=fun c W => lines_in.calls c (inB c) W (in_f c)
   clear hpc
   gi_wp2_with (refine ⟨trivial,?_⟩; gi_at_call 113; refine (callsIn_wide.2 (hIn _ _)).mono ?_; rintro e w1 ⟨rfl,m,rfl⟩)
   have hz0 : 0 < cur.size:=by omega
   have hb0 : inB ((cur[0]'hz0).toNat : Int) = inU (cur.data.toList[0]'(by rw [dlen]; exact hz0)):=by unfold inU; congr 2
   obtain ⟨b,hb⟩ : ∃ b,inU (cur.data.toList[0]'(by rw [dlen]; exact hz0)) = b:=⟨_,rfl⟩
   rw [hb] at hb0
   rw [hb0]
   have HB:=Lib.hid hb
   clear hb hb0
   have hJd : ∀ (U : World) (q : Nat),J pre U → J pre (U.drewN q):=fun U q h => hJ _ _ _ none h ⟨rfl,rfl,rfl,Nat.le_refl _,fun _ _ _ => rfl⟩ (fun r e => by cases e)
   gi_loopg [4] (cur.size - 1) (fun kx s4 w2 => ∃ k : Nat,s4 = .int .i64 k ∧ k + kx = cur.size ∧ 1 ≤ k ∧ J pre w2 ∧ Boxed w2 B 9 (.string cur) ∧ Hid (∀ j (hj : j < cur.data.toList.length),j < k → inU cur.data.toList[j] = b))
   case atStart =>
    refine ⟨1,rfl,by omega,Nat.le_refl _,hJd _ _ hJ0,bs,Lib.hid ?_⟩
    intro j hj hj1
    obtain rfl : j = 0:=by omega
    exact HB.out
   case round =>
    have hbs0:=bs
    clear hJ0 bs cs fs
    obtain ⟨k,rfl,hk,hk1,hJ0,bs,HU⟩:=hrel
    have cs:=bs.cell
    have fs:=bs.frozen
    have hes : (cur.extract k cur.size).size = cur.size - k:=by simp
    have hall : Hid (∀ c ∈ cur.data.toList.take k,inU c = b):=Lib.hid (by
     intro c hc'
     obtain ⟨j,hj,rfl⟩:=List.getElem_of_mem hc'
     rw [List.length_take] at hj
     rw [List.getElem_take]
     exact HU.out j (by omega) (by omega))
    by_cases hlt : k < cur.size
    ·have hkd : decide ((k : Int) < (cur.size : Int)) = true:=decide_eq_true (by omega)
     have hk0 : (0 : Int) ≤ (k : Int):=by omega
     have hki : (k : Int) < (cur.size : Int):=by omega
     have hwk : IntKind.i64.wrap ((k : Int) + 1) = ((k + 1 : Nat) : Int):=by rw [wrap_small _ (by omega) (by omega)]; omega
     have hbk : inB ((cur[k]'hlt).toNat : Int) = inU (cur.data.toList[k]'(by rw [dlen]; exact hlt)):=by unfold inU; congr 2
     obtain ⟨bk,hbk2⟩ : ∃ bk,inU (cur.data.toList[k]'(by rw [dlen]; exact hlt)) = bk:=⟨_,rfl⟩
     rw [hbk2] at hbk
     have HBK:=Lib.hid hbk2
     clear hbk2
     by_cases hbb : bk = b
     ·subst hbb
      have hbeq : (bk == bk) = true:=by simp
      gi_wp2_with (refine ⟨trivial,?_⟩; gi_at_call 113; refine (callsIn_wide.2 (hIn _ _)).mono ?_; rintro e w1 ⟨rfl,m2,rfl⟩)
      go_roundg (cur.size - (k + 1))
      case measure => omega
      case rel =>
       refine ⟨k + 1,by first | rfl | (rw [hwk]),by omega,by omega,hJd _ _ hJ0,bs,Lib.hid ?_⟩
       intro j hj hjk
       rcases Nat.lt_or_ge j k with h | h
       ·exact HU.out j hj h
       ·obtain rfl : j = k:=by omega
        exact HBK.out
     ·have hbeq : (bk == b) = false:=by rw [beq_eq_false_iff_ne]; exact hbb
      have hhead:=piecesP_head (s:=cur) (n:=k) (b:=b) (by omega) (by omega) hall.out (fun c hc2 => by
       rw [List.getElem?_eq_getElem (by rw [dlen]; exact hlt)] at hc2
       rw [← Option.some.inj hc2,HBK.out]; exact hbb)
      have hlen : pre ++ [(cur.extract 0 k,b)] <+: piecesP s:=by rw [← HPC.out,hhead]; exact ⟨_,List.append_assoc _ _ _⟩
      have hhead':=Lib.hid hhead
      clear hhead
      gi_wp2_with (refine ⟨trivial,?_⟩; gi_at_call 113; refine (callsIn_wide.2 (hIn _ _)).mono ?_; rintro e w1 ⟨rfl,m2,rfl⟩; obtain ⟨fn,tmps,assign,body,hy,hR⟩:=hY pre (cur.extract 0 k,b) (wr.drewN m2) (hJd _ _ hJ0) hlen)
      have hhead:=hhead'.out
      have bs' : Boxed (wr.drewN m2) B 9 (.string cur):=bs
      refine hR.mono ?_
      rintro e W3 (⟨rfl,hJ3,hk3⟩ | ⟨rfl,hJx3⟩)
      ·have bs3:=boxed_of bs' hk3
       have cs3:=bs3.cell
       have fs3:=bs3.frozen
       gi_wp2
       go_roundw
       case rel => exact ⟨cur.extract k cur.size,pre ++ [(cur.extract 0 k,b)],hJ _ _ _ _ hJ3 (grownBy_setCell' _ _ _) (fun r e => .inr (Option.some.inj e).symm),bs3.set _,by rw [hes]; omega,by rw [← HPC.out,hhead]; simp⟩
       case measure =>
        rw [sizeAt_of (bs3.set _),sizeAt_of hbs0]
        rw [hes]
        omega
      ·gi_wp2
       refine bodyPost_ret (results_none rfl _ _ _) rfl ?_
       exact ⟨⟨_,rfl⟩,.inr ⟨pre ++ [(cur.extract 0 k,b)],by rw [← HPC.out,hhead]; exact ⟨piecesP (cur.extract k cur.size),by simp⟩,hJx3⟩⟩
    ·have hke : k = cur.size:=by omega
     have hkd : decide ((k : Int) < (cur.size : Int)) = false:=decide_eq_false (by omega)
     have hhead:=piecesP_head (s:=cur) (n:=k) (b:=b) (by omega) (by omega) hall.out (fun c hc2 => by
      rw [List.getElem?_eq_none (by rw [dlen]; omega)] at hc2
      cases hc2)
     have hlen : pre ++ [(cur.extract 0 k,b)] <+: piecesP s:=by rw [← HPC.out,hhead]; exact ⟨_,List.append_assoc _ _ _⟩
     have hhead':=Lib.hid hhead
     clear hhead
     have hk0 : (0 : Int) ≤ (k : Int):=by omega
     have hki : (k : Int) ≤ (cur.size : Int):=by omega
     obtain ⟨fn,tmps,assign,body,hy,hR⟩:=hY pre (cur.extract 0 k,b) wr hJ0 hlen
     have HKE:=Lib.hid hke
     clear hke
     gi_wp2
     refine ⟨trivial,?_⟩
     gi_wp2
     have hhead:=hhead'.out
     have bs' : Boxed wr B 9 (.string cur):=bs
     refine hR.mono ?_
     rintro e W3 (⟨rfl,hJ3,hk3⟩ | ⟨rfl,hJx3⟩)
     ·have bs3:=boxed_of bs' hk3
      have cs3:=bs3.cell
      have fs3:=bs3.frozen
      gi_wp2
      go_roundw
      case rel => exact ⟨cur.extract k cur.size,pre ++ [(cur.extract 0 k,b)],hJ _ _ _ _ hJ3 (grownBy_setCell' _ _ _) (fun r e => .inr (Option.some.inj e).symm),bs3.set _,by rw [hes]; omega,by rw [← HPC.out,hhead]; simp⟩
      case measure =>
       rw [sizeAt_of (bs3.set _),sizeAt_of hbs0]
       rw [hes]
       omega
     ·gi_wp2
      refine bodyPost_ret (results_none rfl _ _ _) rfl ?_
      exact ⟨⟨_,rfl⟩,.inr ⟨pre ++ [(cur.extract 0 k,b)],by rw [← HPC.out,hhead]; exact ⟨piecesP (cur.extract k cur.size),by simp⟩,hJx3⟩⟩
theorem pieces_stops (n : Nat) (hn : 1 ≤ n) (B : Nat) (s : ByteArray) (w : World) (hs : s.size ≤ 140737488355328) (bs : Boxed w B 9 (.string s)) :
  SeqZ Fence.wide n Tryz.prog 161 #[.pointer (some ⟨B,0,none⟩)] (fun y : ByteArray × Bool => #[.string y.1,.bool y.2]) (fun W W' => W'.heap[B]? = W.heap[B]?) (fun r => r = B)
   (fun ys => ys = piecesP s) (fun pre => pre <+: piecesP s) (piecesP s).length w:=fun l J Jx W hW hJ hJx hY h0 =>
 pieces_gives n hn B s w hs bs l J Jx W hW hJ hJx (fun pre x W1 h hp => hY pre x W1 h (by have:=hp.length_le; simp at this; omega)) h0
end Go.Proofs.YthhohbidjhcjeaaGreatDoor.H
namespace Go.Proofs.YthhohbidjhcjeaaGreatDoor.H
open Go.RowKit Go.Shelf Go.Proofs.YthhohbidjhcjeaaGreatDoorW.PrintWords Go.Proofs.YthhohbidjhcjeaaGreatDoorW.PrintLast Go.Proofs.YthhohbidjhcjeaaGreatDoorW.PrintMore
open Go.Proofs.YthhohbidjhcjeaaGreatDoor.Q Go.Proofs.YthhohbidjhcjeaaGreatDoor.Pl Go.Proofs.YthhohbidjhcjeaaGreatDoor.RB
set_option linter.unusedVariables false
set_option linter.unusedSimpArgs false
attribute [local go_sem] Oper.semAt_some
theorem pieces_in (n : Nat) (s : ByteArray) (w : World) :
  CallsIn Fence.wide n Tryz.prog 138 #[.string s] w fun e w' => e = .returned (.func (.func 161) #[] #[.pointer (some ⟨w.heap.size,0,none⟩)]) ∧ w' = w.alloc (.cells #[.string s] 9):=by
 refine callsIn_of_wp Tryz.func138 rfl trivial ?_ rfl
 simp only [Tryz.ntmps138,List.size_toArray,List.length_cons,List.length_nil,Nat.reduceAdd,Nat.reduceSub,Array.replicate_succ,Array.replicate_zero,List.push_toArray,List.append_toArray,List.nil_append,List.cons_append]
 gi_wp2
 go_ret
 exact ⟨rfl,rfl⟩
theorem piecesP_len (s : ByteArray) : (piecesP s).length ≤ s.size:=by
 have key : ∀ l : List UInt8,(runs l).length ≤ l.length:=by
  intro l
  induction l with
  | nil => exact Nat.le_refl _
  | cons c l ih =>
   rw [runs_eq]
   split
   ·rename_i d r rest hr
    rw [hr] at ih
    simp only [List.length_cons] at ih ⊢
    split <;> simp only [List.length_cons] <;> omega
   ·simp
 unfold piecesP
 rw [List.length_map,← dlen]
 exact key _
theorem piecesP_fst (s : ByteArray) : (piecesP s).map (·.1) = piecesV s:=by
 unfold piecesP piecesV
 rw [List.map_map]
 rfl
set_option maxRecDepth 100000 in
set_option maxHeartbeats 4000000 in
theorem tokens_in (s : ByteArray) (w : World) (hs : s.size ≤ 1000000000) :
  CallsIn Fence.wide 6 Tryz.prog 103 #[.string s] w fun e w' => ∃ v,e = .returned v ∧ RowS w w' v (piecesV s) ∧ Below w.heap.size w w':=by
 refine callsIn_of_wp_marks Tryz.func103 rfl trivial ?_ rfl
 simp only [Tryz.ntmps103,List.size_toArray,List.length_cons,List.length_nil,Nat.reduceAdd,Nat.reduceSub,Array.replicate_succ,Array.replicate_zero,List.push_toArray,List.append_toArray,List.nil_append,List.cons_append]
 gi_wp2_with (refine ⟨trivial,?_⟩; gi_at_call 138; refine (pieces_in _ _ _).mono ?_; rintro e w1 ⟨rfl,rfl⟩)
 have bR:=(Boxed.new w 23 (.slice none 0 0)).alloc (.cells #[.string s] 9)
 have bs:=Boxed.new (w.alloc (.cells #[.slice none 0 0] 23)) 9 (.string s)
 simp only [World.size_alloc] at bs
 have hB0 : Below w.heap.size w ((w.alloc (.cells #[.slice none 0 0] 23)).alloc (.cells #[.string s] 9)):=((Below.refl _ w).alloc (Nat.le_refl _) _).alloc (by simp) _
 have hsz : ((w.alloc (.cells #[.slice none 0 0] 23)).alloc (.cells #[.string s] 9)).heap.size = w.heap.size + 2:=by simp
 obtain ⟨W0,hW0⟩ : ∃ W0,((w.alloc (.cells #[.slice none 0 0] 23)).alloc (.cells #[.string s] 9)) = W0:=⟨_,rfl⟩
 rw [hW0] at bR bs hB0 hsz ⊢
 clear hW0
 have hpl:=piecesP_len s
 obtain ⟨i0,hi0,hz0,hz1,hz2⟩:=info_parts infoS
 refine wpIn_rangeFunc_boxes (F:=Fence.wide) (α:=ByteArray × Bool) (Z:=fun r => r = w.heap.size + 1) rfl (by omega) (gf:=161)
  (lb:=#[.pointer (some ⟨w.heap.size + 1,0,none⟩)]) rfl trivial (enters_of Tryz.func161 (by kernel_rfl) rfl)
  (pieces_stops 5 (by omega) (w.heap.size + 1) s W0 (by omega) bs) (fun r e => by omega) ?kt ?kb (Below.refl _ _) (fun _ => rfl)
  (fun pre W => ∃ v,Boxed W w.heap.size 23 v ∧ OwnRow Rs 9 1 W (w.heap.size + 2) v (pre.map (·.1)) ∧ Below w.heap.size w W ∧ w.heap.size + 2 ≤ W.heap.size)
  (fun _ pre W => False)
  ?own ?ownx ⟨_,bR,OwnRow.none_ _ _ _ _ _,hB0,by omega⟩
  (fun x => { tmps:=#[.string s,undef,.slice none 0 0,.pointer (some ⟨w.heap.size,0,none⟩),.string x.1,.string s,.func (.func 161) #[] #[.pointer (some ⟨w.heap.size + 1,0,none⟩)],.string x.1,.bool x.2,undef,undef,undef,undef,undef],defers:=[] })
  ?assign ?body ?done ?stop
 case kt => exact fun h k => k.trans h
 case kb => exact fun W l o o' hl _ _ _ => World.putObj_heap_other (by omega)
 case own =>
  rintro pre X Y row ⟨v,h1,h2,h4,h6⟩ hg hr
  have ne : ∀ B t v,Boxed X B t v → B ≠ w.heap.size + 1 → some B ≠ row:=fun B t v hb hB e => by
   rcases hr B e.symm with ⟨_,o,ho,hc⟩ | h5
   ·rw [show X.heap[B]? = _ from hb] at ho
    cases ho
    cases hc
   ·exact hB h5
  refine ⟨v,h1.kept hg (ne _ _ _ h1 (by omega)),OwnRow.other h2 hg ?_,Below.grown h4 hg (by have:=h1.lt; omega) (fun r e => by rcases hr r e with ⟨h5,_⟩ | h5 <;> omega),Nat.le_trans h6 hg.size⟩
  obtain ⟨inner,⟨_,ho⟩,_⟩:=h2
  rcases ho with ⟨rfl,_⟩ | ⟨g,cap,cur,rfl,hg0,hh,_⟩
  ·exact .inl rfl
  ·right
   intro e
   rcases hr g e.symm with ⟨_,o,ho,hc⟩ | h5
   ·rw [hh] at ho
    cases ho
    cases hc
   ·omega
 case ownx => exact fun _ pre X Y row h _ _ => h.elim
 case assign =>
  intro l x W K hK
  gi_wp2
  exact hK
 case body =>
  rintro l pre x W ⟨v,h1,h2,h4,h6⟩ hlt
  obtain ⟨inner,hown,hrp⟩:=h2
  have c1:=h1.cell
  have f1:=h1.frozen
  have hlm : (pre.map (·.1)).length = pre.length:=List.length_map ..
  rw [hlm] at hown
  have hn1 : pre.length + 1 ≤ maxLen:=by unfold maxLen; omega
  have hn2 : (pre.length + 1) * 16 ≤ 140737488355328:=Nat.le_trans (Nat.mul_le_mul_right 16 (show pre.length + 1 ≤ 1000000001 by omega)) (by decide)
  have HOWN:=Lib.hid hown
  have HRP:=Lib.hid hrp
  have HN1:=Lib.hid hn1
  have HN2:=Lib.hid hn2
  have HI0:=Lib.hid hi0
  have HZ0:=Lib.hid hz0
  have HZ1:=Lib.hid hz1
  have HZ2:=Lib.hid hz2
  clear hown hrp hn1 hn2 hi0 hz0 hz1 hz2
  have hA : Below W.heap.size W (W.alloc (.cells #[.string x.1] 9)):=(Below.refl _ _).alloc (Nat.le_refl _) _
  have hown2:=pw_own_below HOWN.out hA
  have bA:=h1.alloc (.cells #[.string x.1] 9)
  have hnews : ∀ j u,[Value.string x.1][j]? = some u → (W.alloc (.cells #[.string x.1] 9)).cell? ((⟨W.heap.size,0,none⟩ : Addr).add j) = some u:=by
   intro j u hu
   have hj : j = 0:=by
    have:=(List.getElem?_eq_some_iff.1 hu).1
    simp at this
    exact this
   subst hj
   simp only [List.getElem?_cons_zero,Option.some.injEq] at hu
   subst hu
   exact (Boxed.new W 9 (.string x.1)).cell
  have HNEWS:=Lib.hid hnews
  have HOWN2:=Lib.hid hown2
  have hne0 : some w.heap.size ≠ v.ownBlock:=fun e => by have:=own_base HOWN.out _ e.symm; omega
  clear hown2 hnews
  gi_wp2_with (gi_at_builtin; refine wpListIn_append_own_at _ rfl _ _ 23 rfl (w.heap.size + 2) 9 i0 _ 1 16 Tryz.underlying23 HI0.out HZ0.out HZ1.out HZ2.out rfl (by omega) _ _ _ rfl HOWN2.out ⟨W.heap.size,0,none⟩ 1 1 [.string x.1] rfl rfl HNEWS.out (by simp [Value.oneCell']) HN1.out HN2.out (by simp only [World.size_alloc]; omega) ?_; intro v' w2 hown3 hg hnil hat; obtain ⟨A,cc,rfl⟩:=own_slice hown3; have b2:=bA.kept hg hne0; have c2:=b2.cell; have f2:=b2.frozen)
  have hszg:=hg.size
  rw [World.size_alloc] at hszg
  have hrow : OwnRow Rs 9 1 w2 (w.heap.size + 2) (.slice A (pre.length + 1) cc) ((pre ++ [x]).map (·.1)):=by
   rw [List.map_append]
   refine ⟨_,?_,Reps.snoc (c:=[.string x.1]) (p:=x.1) HRP.out rfl rfl⟩
   rw [List.length_append,hlm]
   exact hown3
  have hke : KeepsOthers W w2:=(KeepsOthers.alloc _ _).trans (KeepsOthers.of_grownBy hg fun j o hj ho => by
   obtain ⟨_,⟨rfl,_⟩ | ⟨g,cap,cur,rfl,hg0,hh,_⟩⟩:=HOWN.out
   ·cases hj
   ·cases hj
    rw [Below.heap_alloc _ _ _ (Array.getElem?_eq_some_iff.1 hh).1,hh] at ho
    cases ho
    rfl)
  refine ⟨(hke.trans (KeepsOthers.setCell _ _ _)).from _,?_,_,b2.set _,OwnRow.set_ hrow b2 (by decide) _ _,?_,?_⟩
  ·refine ((grownBy_setCell' w2 w.heap.size _).block (w.heap.size + 1) (by omega) (by simp)).trans ((hg.block (w.heap.size + 1) (by simp only [World.size_alloc]; omega) (fun e => by have:=own_base HOWN.out _ e.symm; omega)).trans (hA.block _ (by omega)))
  ·refine Below.setCell (p:=⟨w.heap.size,0,none⟩) ?_ (Nat.le_refl _) _
   refine Below.grown (h4.trans (hA.mono h4.size)) hg (by simp only [World.size_alloc]; omega) (fun r e => ?_)
   have:=own_base HOWN.out r e
   show w.heap.size ≤ r
   omega
  ·rw [World.size_setCell]
   omega
 case done =>
  rintro D xs W hD hS ⟨v,h1,h2,h4,h6⟩ hdf
  have hr : xs.map (·.1) = piecesV s:=by rw [← piecesP_fst]; exact congrArg _ hS
  rw [hr] at h2
  obtain ⟨A,cc,rfl,hcc⟩:=OwnRow.slice_ h2
  obtain ⟨N,hN⟩ : ∃ N,(piecesV s).length = N:=⟨_,rfl⟩
  rw [hN] at h1 h2
  have c1:=h1.cell
  clear hS hr
  gi_wp2
  refine ⟨by simp,.inl ⟨_,_,rfl,run_takeDeferred hdf,?_⟩⟩
  refine ⟨.slice A N cc,by simp [results,Tryz.results103,go_sem],⟨.slice A N cc,rfl,?_,?_⟩⟩
  ·obtain ⟨inner,hown,hrp⟩:=h2
   exact OwnRow.lower ⟨inner,ownsRow_putObj hown _ hdf rfl,hrp⟩ (by omega)
  ·exact Below.trans h4 (belowK_b (w:=w) (Nat.le_refl _) _ D _ _ (by omega) hdf rfl rfl)
 case stop => exact fun D pre W _ _ h _ => h.elim
/-- lines.Tokens. -/
theorem tokens_at (s : ByteArray) (w : World) (hs : s.size ≤ 1000000000) :
  Calls Tryz.prog 103 #[.string s] w fun e w' => ∃ v,e = .returned v ∧ RowS w w' v (piecesV s) ∧ Below w.heap.size w w':=callsIn_wide.1 (tokens_in s w hs)
end Go.Proofs.YthhohbidjhcjeaaGreatDoor.H
namespace Go.Proofs.YthhohbidjhcjeaaGreatDoor.H
open Go.RowKit Go.Shelf Go.Proofs.YthhohbidjhcjeaaGreatDoorW.PrintWords Go.Proofs.YthhohbidjhcjeaaGreatDoorW.PrintLast Go.Proofs.YthhohbidjhcjeaaGreatDoorW.PrintMore
open Go.Proofs.YthhohbidjhcjeaaGreatDoor.Q Go.Proofs.YthhohbidjhcjeaaGreatDoor.Pl
set_option linter.unusedVariables false
set_option linter.unusedSimpArgs false
set_option maxHeartbeats 1000000 in
set_option maxRecDepth 100000 in
theorem copyCheck_used (b : Nat) (w : World) (h0 : w.cell? ⟨b,0,none⟩ = some (.pointer (some ⟨b,0,none⟩))) :
  Calls Tryz.prog 162 #[.pointer (some ⟨b,0,none⟩)] w fun e w' => e = .returned (.tuple #[]) ∧ w' = w:=by
 obtain ⟨j,hj,_⟩:=Option.map_eq_some_iff.1 Tryz.Builder_Extra_169.sizeBuilder
 go_enter Tryz.func162,Tryz.ntmps162
 go_wp2
 rw [Lib.run_neq_ptr_same w _ Tryz.underlying147 hj]
 go_wp2
 go_end0
 exact ⟨rfl,rfl⟩
set_option maxHeartbeats 1000000 in
set_option maxRecDepth 100000 in
theorem copyCheck_fresh (b : Nat) (w : World) (h0 : w.cell? ⟨b,0,none⟩ = some (.pointer none)) (hsh : w.shape? b = some (150,2)) (hfz : w.frozen? ⟨b,0,none⟩ = false) :
  Calls Tryz.prog 162 #[.pointer (some ⟨b,0,none⟩)] w fun e w' => e = .returned (.tuple #[]) ∧ w' = w.setCell ⟨b,0,none⟩ (.pointer (some ⟨b,0,none⟩)):=by
 obtain ⟨j,hj,hjs⟩:=Option.map_eq_some_iff.1 Tryz.Builder_Extra_169.sizeBuilder
 go_enter Tryz.func162,Tryz.ntmps162
 go_wp2
 rw [Lib.run_to_unsafe w ⟨b,0,none⟩ Tryz.underlying147 Tryz.underlying199 hj (by rw [hjs]; decide) hsh (Nat.zero_lt_succ 1)]
 simp only [Result.andThen]
 rw [Oper.upon_value]
 go_wp2
 rw [run_callFunc_extern Tryz.func183 (by kernel_rfl) (by kernel_rfl) (by kernel_rfl) (e:=Extern.AbiNoEscape.same) (by kernel_rfl)]
 rw [Lib.run_noEscape]
 simp only [Result.andThen]
 rw [Oper.upon_value]
 go_wp2
 rw [Lib.run_from_unsafe w ⟨b,0,none⟩ Tryz.underlying199 Tryz.underlying147 hj hsh Tryz.Builder_Extra_169.liesBuilder]
 simp only [Result.andThen]
 rw [Oper.upon_value]
 go_wp2
 go_end0
 exact ⟨rfl,rfl⟩
theorem copyCheck_at (B b : Nat) (bs : List Value) (w : World) (h : Lib.IsBuilder 150 5 B b bs w) :
  Calls Tryz.prog 162 #[.pointer (some ⟨b,0,none⟩)] w fun e w' => e = .returned (.tuple #[]) ∧ (Lib.BuilderAt 150 5 B b (.pointer (some ⟨b,0,none⟩)) bs w' ∧ w.grownBy w' (some b)):=by
 rcases h with h | h
 ·refine (copyCheck_fresh b w h.cell0 h.shape h.frozen0).mono ?_
  rintro e w' ⟨rfl,rfl⟩
  exact ⟨rfl,h.used _,grownBy_setCell' _ _ _⟩
 ·refine (copyCheck_used b w h.cell0).mono ?_
  rintro e w' ⟨rfl,rfl⟩
  exact ⟨rfl,h,World.grownBy.refl _ _⟩
end Go.Proofs.YthhohbidjhcjeaaGreatDoor.H
namespace Go.Proofs.YthhohbidjhcjeaaGreatDoor.H
open Go.RowKit Go.Shelf Go.Proofs.YthhohbidjhcjeaaGreatDoorW.PrintWords Go.Proofs.YthhohbidjhcjeaaGreatDoorW.PrintLast Go.Proofs.YthhohbidjhcjeaaGreatDoorW.PrintMore
open Go.Proofs.YthhohbidjhcjeaaGreatDoor.Q Go.Proofs.YthhohbidjhcjeaaGreatDoor.Pl
set_option linter.unusedVariables false
set_option linter.unusedSimpArgs false
/-- A builder at block b that holds bytes; its row lies at or behind block B. -/
def Bld (B b : Nat) (bs : List Value) (W : World) : Prop :=
 ∃ p v,(p = .pointer none ∨ p = .pointer (some ⟨b,0,none⟩)) ∧ W.heap[b]? = some (.cells #[p,v] 150 (0,0)) ∧ W.ownsRow B 5 1 v bs.length bs ∧ (bs = [] → v = .slice none 0 0)
theorem Bld.is {B b : Nat} {bs : List Value} {W : World} (h : Bld B b bs W) (N : Nat) (h1 : N ≤ B) (h2 : N ≤ b) : Lib.IsBuilder 150 5 N b bs W:=by
 obtain ⟨p,v,hp,hb,ho,hnil⟩:=h
 rcases hp with rfl | rfl
 ·exact .inl ⟨h2,v,hb,own_weaken ho h1,fun e => own_ne ho hb (by decide) e.symm⟩
 ·exact .inr ⟨h2,v,hb,own_weaken ho h1,fun e => own_ne ho hb (by decide) e.symm⟩
/-- A builder stays one where neither its block nor a row of bytes is touched. -/
theorem Bld.kept {B b : Nat} {bs : List Value} {W W' : World} {row : Option Nat} (h : Bld B b bs W) (hg : W.grownBy W' row) (hr : ∀ r,row = some r → r ≠ b ∧ (r < B ∨ ∀ cs fz,W.heap[r]? ≠ some (.cells cs 5 fz))) : Bld B b bs W':=by
 obtain ⟨p,v,hp,hb,ho,hnil⟩:=h
 refine ⟨p,v,hp,(hg.block b (Array.getElem?_eq_some_iff.1 hb).1 (fun e => (hr b e.symm).1 rfl)).trans hb,own_other ho hg ?_,hnil⟩
 obtain ⟨_,⟨hv,_⟩ | ⟨g,cap',cur,hv,hg0,hh,_⟩⟩:=ho
 ·left; rw [hv]; rfl
 ·right
  intro e
  rw [hv] at e
  rcases (hr g e.symm).2 with h1 | h1
  ·omega
  ·exact h1 _ _ hh
theorem copyCheck_bld {B b : Nat} {bs : List Value} {w : World} (h : Bld B b bs w) :
  Calls Tryz.prog 162 #[.pointer (some ⟨b,0,none⟩)] w fun e w' => e = .returned (.tuple #[]) ∧ (∃ v,w'.heap[b]? = some (.cells #[.pointer (some ⟨b,0,none⟩),v] 150 (0,0)) ∧ w'.ownsRow B 5 1 v bs.length bs ∧ (bs = [] → v = .slice none 0 0)) ∧ w.grownBy w' (some b):=by
 obtain ⟨p,v,hp,hb,ho,hnil⟩:=h
 have hne:=own_ne ho hb (by decide)
 rcases hp with rfl | rfl
 ·refine (copyCheck_fresh b w (by rw [Lib.cell_of_heap hb]; rfl) (by simp [World.shape?,hb]) (Lib.frozen_of_heap hb 0)).mono ?_
  rintro e w' ⟨rfl,rfl⟩
  refine ⟨rfl,⟨v,?_,own_setCell ho hne _,hnil⟩,grownBy_setCell' _ _ _⟩
  simp [World.setCell,Array.getElem?_modify,hb]
 ·refine (copyCheck_used b w (by rw [Lib.cell_of_heap hb]; rfl)).mono ?_
  rintro e w' ⟨rfl,rfl⟩
  exact ⟨rfl,⟨v,hb,ho,hnil⟩,World.grownBy.refl _ _⟩
set_option maxHeartbeats 2000000 in
set_option maxRecDepth 100000 in
theorem writeString_at (B b : Nat) (bs : List Value) (s : ByteArray) (w : World) (h : Bld B b bs w) (hlen : bs.length + s.size ≤ 140737488355328) (hBw : B ≤ w.heap.size) :
  Calls Tryz.prog 139 #[.pointer (some ⟨b,0,none⟩),.string s] w fun e w' => e = .returned (.tuple #[.int .i64 s.size,.nilIface]) ∧ Bld B b (bs ++ Lib.strCells s) w' ∧
   (∀ N,N ≤ B → N ≤ b → N ≤ w.heap.size → Below N w w') ∧ (∀ k o,w.heap[k]? = some o → k ≠ b → (k < B ∨ ∀ cs fz,o ≠ .cells cs 5 fz) → w'.heap[k]? = some o):=by
 obtain ⟨i0,hi,hz0,hz1,hz2⟩:=info_parts Tryz.Builder_Extra_169.infoByte
 go_enter Tryz.func139,Tryz.ntmps139
 replace hi : Tryz.prog.info? 5 = some i0:=hi
 have hmx : bs.length + s.size ≤ maxLen:=by unfold maxLen; omega
 replace h:=Lib.hid h
 replace hi:=Lib.hid hi
 replace hz0:=Lib.hid hz0
 replace hz1:=Lib.hid hz1
 replace hz2:=Lib.hid hz2
 replace hmx:=Lib.hid hmx
 replace hlen:=Lib.hid hlen
 go_wp2_with (first
  | (go_at_call 162; refine (copyCheck_bld h.out).mono ?_; rintro e w1 ⟨rfl,⟨v,hbk,hown,hnil⟩,hb1⟩; replace hnil:=Lib.hid hnil; obtain ⟨ao0,cap0,rfl⟩:=own_slice hown; have hne:=own_ne hown hbk (by decide); replace hbk:=Lib.hid hbk; replace hown:=Lib.hid hown; replace hne:=Lib.hid hne; have c0 : w1.cell? ⟨b,0,none⟩ = some (.pointer (some ⟨b,0,none⟩)):=(by rw [Lib.cell_of_heap hbk.out]; rfl); have c1 : w1.cell? ⟨b,1,none⟩ = some (.slice ao0 bs.length cap0):=(by rw [Lib.cell_of_heap hbk.out]; rfl))
  | (at_builtin; refine Lib.wpList_append_own_string _ rfl _ _ 148 9 rfl B 5 i0 Tryz.underlying148 Tryz.underlying9 hi.out hz0.out hz1.out hz2.out _ _ _ rfl hown.out s rfl hmx.out hlen.out (Nat.le_trans hBw hb1.size) ?_; intro v' w2 hown' hgrow hiff; replace hiff:=Lib.hid hiff; obtain ⟨ao,cap,rfl⟩:=own_slice hown'; have hb2 : w2.heap[b]? = some (.cells #[.pointer (some ⟨b,0,none⟩),.slice ao0 bs.length cap0] 150 (0,0)):=((hgrow.block b (Array.getElem?_eq_some_iff.1 hbk.out).1 hne.out).trans hbk.out); replace hb2:=Lib.hid hb2; have d0 : w2.cell? ⟨b,0,none⟩ = some (.pointer (some ⟨b,0,none⟩)):=(by rw [Lib.cell_of_heap hb2.out]; rfl); have d1 : w2.cell? ⟨b,1,none⟩ = some (.slice ao0 bs.length cap0):=(by rw [Lib.cell_of_heap hb2.out]; rfl); have f1 : w2.frozen? ⟨b,1,none⟩ = false:=Lib.frozen_of_heap hb2.out 1))
 go_ret2
 refine ⟨rfl,?_,?_,?_⟩
 ·refine ⟨_,.slice ao (bs.length + s.size) cap,.inr rfl,?_,?_,?_⟩
  ·simp [World.setCell,Array.getElem?_modify,hb2.out]
  ·rw [List.length_append,Lib.strCells_length]
   exact own_setCell hown' (own_ne hown' hb2.out (by decide)) _
  ·intro he
   rw [List.append_eq_nil_iff] at he
   exact hiff.out.2 ⟨hnil.out he.1,by have:=he.2; rw [← List.length_eq_zero_iff,Lib.strCells_length] at this; exact this⟩
 ·intro N h1 h2 h3
  refine Below.setCell (p:=⟨b,1,none⟩) ?_ h2 _
  refine Below.grown (Below.grown (Below.refl _ w) hb1 h3 (fun k hk => by cases hk; exact h2)) hgrow (Nat.le_trans h3 hb1.size) (fun k hk => Nat.le_trans h1 (own_base hown.out k hk))
 ·intro k o hk hne' hno
  have hl:=(Array.getElem?_eq_some_iff.1 hk).1
  have hk1 : w1.heap[k]? = some o:=(hb1.block k hl (by simp; exact hne')).trans hk
  have hk2 : w2.heap[k]? = some o:=(hgrow.block k (Array.getElem?_eq_some_iff.1 hk1).1 (fun e => by
   have h9:=own_base hown.out k e.symm
   rcases hno with hno | hno
   ·omega
   obtain ⟨_,⟨hv,_⟩ | ⟨g,cap',cur,hv,hg0,hh,_⟩⟩:=hown.out
   ·rw [hv] at e; cases e
   ·rw [hv] at e
    cases e
    rw [hk1] at hh
    exact hno _ _ (Option.some.inj hh))).trans hk1
  exact (Below.heap_setCell _ _ _ _ (fun e => hne' (by simpa using e))).trans hk2
set_option maxHeartbeats 2000000 in
set_option maxRecDepth 100000 in
theorem string_some (b : Nat) (l : List UInt8) (p : Value) (w : World) (g cap : Nat) (cur : Array Value) (hl0 : l ≠ []) (hbk : w.heap[b]? = some (.cells #[p,.slice (some ⟨g,0,none⟩) l.length cap] 150 (0,0)))
  (hg : w.heap[g]? = some (.cells cur 5 (0,0))) (hn1 : 0 < l.length) (hn2 : l.length ≤ cap) (hn3 : cap ≤ maxLen) (hn4 : l.length ≤ cur.size) (hcells : ∀ j x,l[j]? = some x → w.drew.cell? ((⟨g,0,none⟩ : Addr).add j) = some (.int .u8 x.toNat)) :
  Calls Tryz.prog 140 #[.pointer (some ⟨b,0,none⟩)] w fun e w' => e = .returned (.string ⟨l.toArray⟩) ∧ w' = w.drew.freeze ⟨g,0,none⟩ l.length:=by
 have c1 : w.drew.cell? ⟨b,1,none⟩ = some (.slice (some ⟨g,0,none⟩) l.length cap):=by
  have : w.drew.heap[b]? = some (.cells #[p,.slice (some ⟨g,0,none⟩) l.length cap] 150 (0,0)):=hbk
  rw [Lib.cell_of_heap this]; rfl
 have hSD : (Builtin.unsafeSliceData_ #[148] 176 #[.slice (some ⟨g,0,none⟩) l.length cap]).run Tryz.prog w.drew = .ok (.pointer (some ⟨g,0,none⟩)) w.drew :=
  Lib.run_unsafeSliceData_row _ _ _ _ _ _ (by omega)
 have hUS : (Builtin.unsafeString_ #[176,3] 9 #[.pointer (some ⟨g,0,none⟩),.int .i64 l.length]).run Tryz.prog w.drew = .ok (.string ⟨l.toArray⟩) (w.drew.freeze ⟨g,0,none⟩ l.length):=by
  refine Lib.run_unsafeString_row w.drew 176 3 9 5 Tryz.underlying176 Tryz.Builder_Extra_169.cellsByte g cur.size (by have hg' : w.drew.heap[g]? = some (.cells cur 5 (0,0)):=hg; simp [World.shape?,hg']) l hl0 hn4 (by unfold maxLen at hn3; omega) ?_
  exact hcells
 clear hcells hn1 hn2 hn3 hn4 hg hbk
 go_enter Tryz.func140,Tryz.ntmps140
 go_wp2
 go_region
 all_goals (go_wp2; go_ret; exact ⟨rfl,rfl⟩)
set_option maxHeartbeats 2000000 in
set_option maxRecDepth 100000 in
theorem string_nil (b : Nat) (p : Value) (w : World) (hbk : w.heap[b]? = some (.cells #[p,.slice none 0 0] 150 (0,0))) :
  Calls Tryz.prog 140 #[.pointer (some ⟨b,0,none⟩)] w fun e w' => e = .returned (.string ⟨#[]⟩) ∧ w' = w.drew:=by
 have hUS : ∀ W q,(Builtin.unsafeString_ #[176,3] 9 #[.pointer q,.int .i64 0]).run Tryz.prog W = .ok (.string .empty) W:=fun W q => Lib.run_unsafeString_none W _ _ _ q
 have c1 : w.drew.cell? ⟨b,1,none⟩ = some (.slice none 0 0):=by
  have : w.drew.heap[b]? = some (.cells #[p,.slice none 0 0] 150 (0,0)):=hbk
  rw [Lib.cell_of_heap this]; rfl
 have hSD : (Builtin.unsafeSliceData_ #[148] 176 #[.slice none 0 0]).run Tryz.prog w.drew = .ok (.pointer none) w.drew:=rfl
 go_enter Tryz.func140,Tryz.ntmps140
 go_wp2
 go_region
 all_goals (go_wp2; go_ret; exact ⟨rfl,rfl⟩)
theorem string_at (B b : Nat) (l : List UInt8) (w : World) (h : Bld B b (Lib.byteCells l) w) :
  Calls Tryz.prog 140 #[.pointer (some ⟨b,0,none⟩)] w fun e w' => e = .returned (.string ⟨l.toArray⟩) ∧ (∀ N,N ≤ B → Below N w w') ∧ (∀ (k : Nat) (o : Obj),w.heap[k]? = some o → o.isCells = false → w'.heap[k]? = some o):=by
 obtain ⟨p,v,hp,hb,ho,hnil⟩:=h
 rw [Lib.byteCells_length] at ho
 by_cases hl : l = []
 ·subst hl
  rw [hnil rfl] at hb
  refine (string_nil b p w hb).mono ?_
  rintro e w' ⟨rfl,rfl⟩
  exact ⟨rfl,fun N _ => Below.drew (Below.refl N w),fun k o hk _ => hk⟩
 ·have hpos : 0 < l.length:=by rcases l with _ | _ <;> simp at hl ⊢
  obtain ⟨hln,⟨hv,h0⟩ | ⟨g,cap,cur,hv,hBg,hg,hn2,hn3,hcs,htk⟩⟩:=id ho
  ·omega
  ·subst hv
   have hcells : ∀ j x,l[j]? = some x → w.drew.cell? ((⟨g,0,none⟩ : Addr).add j) = some (.int .u8 x.toNat):=fun j x hx => ho.cells (g:=g) rfl j (.int .u8 x.toNat) (by simp [Lib.byteCells,hx])
   refine (string_some b l p w g cap cur hl hb hg hpos hn2 hn3 (by omega) hcells).mono ?_
   rintro e w' ⟨rfl,rfl⟩
   refine ⟨rfl,fun N hN => Lib.below_freeze (Below.drew (Below.refl N w)) (p:=⟨g,0,none⟩) (Nat.le_trans hN hBg) _,fun k o hk hc => ?_⟩
   have hne : k ≠ g:=by
    rintro rfl
    rw [hg] at hk
    cases hk
    cases hc
   unfold World.freeze
   split
   ·exact hk
   ·simp only [Array.getElem?_modify]
    rw [if_neg (fun e => hne e.symm)]
    exact hk
end Go.Proofs.YthhohbidjhcjeaaGreatDoor.H
namespace Go.Proofs.YthhohbidjhcjeaaGreatDoor.H
open Go.RowKit Go.Shelf Go.Proofs.YthhohbidjhcjeaaGreatDoorW.PrintWords Go.Proofs.YthhohbidjhcjeaaGreatDoorW.PrintLast Go.Proofs.YthhohbidjhcjeaaGreatDoorW.PrintMore
open Go.Proofs.YthhohbidjhcjeaaGreatDoor.Q Go.Proofs.YthhohbidjhcjeaaGreatDoor.Pl Go.Proofs.YthhohbidjhcjeaaGreatDoor.RB
set_option linter.unusedVariables false
set_option linter.unusedSimpArgs false
attribute [local go_sem] Oper.semAt_some
/-- What a piece becomes. -/
def swapP (fr to_ : ByteArray) (x : ByteArray × Bool) : ByteArray:=if x.2 = true ∧ x.1 = fr then to_ else x.1
def outP (fr to_ : ByteArray) (l : List (ByteArray × Bool)) : List UInt8:=l.flatMap (fun x => (swapP fr to_ x).data.toList)
theorem outP_snoc (fr to_ : ByteArray) (l : List (ByteArray × Bool)) (x : ByteArray × Bool) : outP fr to_ (l ++ [x]) = outP fr to_ l ++ (swapP fr to_ x).data.toList:=by simp [outP]
theorem outP_le (fr to_ : ByteArray) (l : List (ByteArray × Bool)) (k : List (ByteArray × Bool)) (h : l <+: k) : (outP fr to_ l).length ≤ (outP fr to_ k).length:=by
 obtain ⟨t,rfl⟩:=h
 simp [outP]
theorem outP_repl (s fr to_ : ByteArray) (hf : tokenB fr = true) : (⟨(outP fr to_ (piecesP s)).toArray⟩ : ByteArray) = replV s fr to_:=by
 have key : ∀ l : List (List UInt8),(l.map pieceP).flatMap (fun x => (swapP fr to_ x).data.toList) = l.flatMap (fun r => if r = fr.data.toList then to_.data.toList else r):=by
  intro l
  induction l with
  | nil => rfl
  | cons r l ih =>
   rw [List.map_cons,List.flatMap_cons,List.flatMap_cons,ih]
   congr 1
   unfold swapP
   by_cases hr : r = fr.data.toList
   ·have hp : pieceP r = (fr,true):=by
     obtain ⟨hne,hall⟩:=token_uni hf
     rw [← hr] at hne hall
     unfold pieceP
     rcases r with _ | ⟨c,r⟩
     ·exact absurd rfl hne
     ·refine Prod.ext ?_ (hall c (by simp))
      rw [hr]
    rw [hp,if_pos ⟨rfl,rfl⟩,if_pos hr]
   ·rw [if_neg hr,if_neg]
    ·rfl
    ·rintro ⟨_,h⟩
     apply hr
     rw [← h]
     rfl
 unfold outP piecesP replV
 rw [key]
theorem outP_bound (fr to_ : ByteArray) (l : List (ByteArray × Bool)) : (outP fr to_ l).length ≤ (l.map (fun x => x.1.size)).sum + l.length * to_.size:=by
 induction l with
 | nil => simp [outP]
 | cons x l ih =>
  have e : outP fr to_ (x :: l) = (swapP fr to_ x).data.toList ++ outP fr to_ l:=by simp [outP]
  rw [e,List.length_append,dlen,List.map_cons,List.sum_cons,List.length_cons,Nat.add_mul]
  have : (swapP fr to_ x).size ≤ x.1.size + to_.size:=by unfold swapP; split <;> omega
  omega
theorem piecesP_sum (s : ByteArray) : ((piecesP s).map (fun x => x.1.size)).sum = s.size:=by
 have key : ∀ l : List (List UInt8),((l.map pieceP).map (fun x => x.1.size)).sum = l.flatten.length:=by
  intro l
  induction l with
  | nil => rfl
  | cons r l ih =>
   rw [List.map_cons,List.map_cons,List.sum_cons,ih,List.flatten_cons,List.length_append]
   congr 1
 unfold piecesP
 rw [key,runs_flat,dlen]
set_option maxRecDepth 100000 in
set_option maxHeartbeats 4000000 in
theorem replace_in (s fr to_ : ByteArray) (w : World) (hs : s.size ≤ 140737488355328) (hlen : (outP fr to_ (piecesP s)).length ≤ 140737488355328) :
  CallsIn Fence.wide 6 Tryz.prog 104 #[.string s,.string fr,.string to_] w fun e w' => e = .returned (.string ⟨(outP fr to_ (piecesP s)).toArray⟩) ∧ Below w.heap.size w w':=by
 refine callsIn_of_wp_marks Tryz.func104 rfl trivial ?_ rfl
 simp only [Tryz.ntmps104,List.size_toArray,List.length_cons,List.length_nil,Nat.reduceAdd,Nat.reduceSub,Array.replicate_succ,Array.replicate_zero,List.push_toArray,List.append_toArray,List.nil_append,List.cons_append]
 gi_wp2_with (refine ⟨trivial,?_⟩; gi_at_call 138; refine (pieces_in _ _ _).mono ?_; rintro e w1 ⟨rfl,rfl⟩)
 have b4:=((((Boxed.new w 9 (.string fr)).alloc (.cells #[.string to_] 9)).alloc (.cells #[.pointer none,.slice none 0 0] 150)).alloc (.cells #[.string s] 9))
 have b5:=(((Boxed.new (w.alloc (.cells #[.string fr] 9)) 9 (.string to_)).alloc (.cells #[.pointer none,.slice none 0 0] 150)).alloc (.cells #[.string s] 9))
 have bs:=Boxed.new (((w.alloc (.cells #[.string fr] 9)).alloc (.cells #[.string to_] 9)).alloc (.cells #[.pointer none,.slice none 0 0] 150)) 9 (.string s)
 have bB : ((((w.alloc (.cells #[.string fr] 9)).alloc (.cells #[.string to_] 9)).alloc (.cells #[.pointer none,.slice none 0 0] 150)).alloc (.cells #[.string s] 9)).heap[w.heap.size + 2]? = some (.cells #[.pointer none,.slice none 0 0] 150 (0,0)):=by
  have h:=blk_new ((w.alloc (.cells #[.string fr] 9)).alloc (.cells #[.string to_] 9)) (.cells #[.pointer none,.slice none 0 0] 150)
  simp only [World.size_alloc] at h
  exact blk_alloc h _
 simp only [World.size_alloc] at b5 bs
 have hB0 : Below w.heap.size w ((((w.alloc (.cells #[.string fr] 9)).alloc (.cells #[.string to_] 9)).alloc (.cells #[.pointer none,.slice none 0 0] 150)).alloc (.cells #[.string s] 9)) :=
  ((((Below.refl _ w).alloc (Nat.le_refl _) _).alloc (by simp) _).alloc (by simp; omega) _).alloc (by simp; omega) _
 have hsz : ((((w.alloc (.cells #[.string fr] 9)).alloc (.cells #[.string to_] 9)).alloc (.cells #[.pointer none,.slice none 0 0] 150)).alloc (.cells #[.string s] 9)).heap.size = w.heap.size + 4:=by simp
 obtain ⟨W0,hW0⟩ : ∃ W0,((((w.alloc (.cells #[.string fr] 9)).alloc (.cells #[.string to_] 9)).alloc (.cells #[.pointer none,.slice none 0 0] 150)).alloc (.cells #[.string s] 9)) = W0:=⟨_,rfl⟩
 rw [hW0] at b4 b5 bs bB hB0 hsz ⊢
 clear hW0
 have hb0 : Bld (w.heap.size + 4) (w.heap.size + 2) (Lib.byteCells (outP fr to_ [])) W0:=⟨_,_,.inl rfl,bB,own_nil _ _ _ _,fun _ => rfl⟩
 refine wpIn_rangeFunc_given (F:=Fence.wide) (α:=ByteArray × Bool) (Z:=fun r => r = w.heap.size + 1 + 1 + 1) rfl (by omega) (gf:=161)
  (lb:=#[.pointer (some ⟨w.heap.size + 1 + 1 + 1,0,none⟩)]) rfl trivial (enters_of Tryz.func161 (by kernel_rfl) rfl)
  (pieces_gives 5 (by omega) (w.heap.size + 1 + 1 + 1) s W0 (by omega) bs) (fun r e => by omega) ?kt ?kb (Below.refl _ _) (fun _ => rfl)
  (fun pre W => Boxed W w.heap.size 9 (.string fr) ∧ Boxed W (w.heap.size + 1) 9 (.string to_) ∧ Bld (w.heap.size + 4) (w.heap.size + 2) (Lib.byteCells (outP fr to_ pre)) W ∧ Below w.heap.size w W ∧ w.heap.size + 4 ≤ W.heap.size)
  (fun _ pre W => False)
  ?own ?ownx ⟨b4,b5,hb0,hB0,by omega⟩
  (fun x => { tmps:=#[.string s,.string fr,.string to_,undef,.pointer (some ⟨w.heap.size,0,none⟩),.pointer (some ⟨w.heap.size + 1,0,none⟩),.string ⟨#[]⟩,.pointer (some ⟨w.heap.size + 1 + 1,0,none⟩),.string x.1,.bool x.2,.string s,
   .func (.func 161) #[] #[.pointer (some ⟨w.heap.size + 1 + 1 + 1,0,none⟩)],.string x.1,.bool x.2,undef,undef,undef,undef,undef,undef,undef,undef,undef,undef],defers:=[] })
  ?assign ?body ?done ?stop
 case kt => exact fun h k => k.trans h
 case kb => exact fun W l o o' hl _ _ _ => World.putObj_heap_other (by omega)
 case own =>
  rintro pre X Y row ⟨h1,h2,h3,h4,h6⟩ hg hr
  have ne : ∀ B t v,Boxed X B t v → B ≠ w.heap.size + 1 + 1 + 1 → some B ≠ row:=fun B t v hb hB e => by
   rcases hr B e.symm with ⟨_,o,ho,hc⟩ | h5
   ·rw [show X.heap[B]? = _ from hb] at ho
    cases ho
    cases hc
   ·exact hB h5
  refine ⟨h1.kept hg (ne _ _ _ h1 (by omega)),h2.kept hg (ne _ _ _ h2 (by omega)),h3.kept hg fun r e => ?_,Below.grown h4 hg (by have:=h1.lt; omega) (fun r e => by rcases hr r e with ⟨h5,_⟩ | h5 <;> omega),Nat.le_trans h6 hg.size⟩
  rcases hr r e with ⟨h5,o,ho,hc⟩ | h5
  ·refine ⟨by omega,.inr fun cs fz hh => ?_⟩
   rw [ho] at hh
   cases hh
   cases hc
  ·exact ⟨by omega,.inl (by omega)⟩
 case ownx => exact fun _ pre X Y row h _ _ => h.elim
 case assign =>
  intro l x W K hK
  gi_wp2
  exact hK
 case body =>
  rintro l pre ⟨t,fl⟩ W ⟨h1,h2,h3,h4,h6⟩ hpre
  have c1:=h1.cell
  have c2:=h2.cell
  have hbnd : (outP fr to_ pre).length + (swapP fr to_ (t,fl)).size ≤ 140737488355328:=by
   have h:=outP_le fr to_ _ _ hpre
   rw [outP_snoc,List.length_append,dlen] at h
   omega
  have hend : ∀ (a : Act) (e : Ending) (w1 : World),e = .returned (.tuple #[.int .i64 (swapP fr to_ (t,fl)).size,.nilIface]) ∧ Bld (w.heap.size + 4) (w.heap.size + 1 + 1) (Lib.byteCells (outP fr to_ pre) ++ Lib.strCells (swapP fr to_ (t,fl))) w1 ∧
   (∀ N,N ≤ w.heap.size + 4 → N ≤ w.heap.size + 1 + 1 → N ≤ W.heap.size → Below N W w1) ∧ (∀ k o,W.heap[k]? = some o → k ≠ w.heap.size + 1 + 1 → (k < w.heap.size + 4 ∨ ∀ cs fz,o ≠ .cells cs 5 fz) → w1.heap[k]? = some o) →
   postZ W0.heap.size (fun W W' => W'.heap[w.heap.size + 1 + 1 + 1]? = W.heap[w.heap.size + 1 + 1 + 1]?) (fun pre W => Boxed W w.heap.size 9 (.string fr) ∧ Boxed W (w.heap.size + 1) 9 (.string to_) ∧ Bld (w.heap.size + 4) (w.heap.size + 2) (Lib.byteCells (outP fr to_ pre)) W ∧ Below w.heap.size w W ∧ w.heap.size + 4 ≤ W.heap.size)
    (fun _ pre W => False) (pre ++ [(t,fl)]) W .normal a w1:=by
   rintro a e w1 ⟨_,hb,hbl,hk⟩
   have hbw:=hbl w.heap.size (by omega) (by omega) (by omega)
   have hbl2:=hbl (w.heap.size + 1 + 1) (by omega) (by omega) (by omega)
   obtain ⟨o3,ho3⟩ : ∃ o,W.heap[w.heap.size + 1 + 1 + 1]? = some o:=⟨_,Array.getElem?_eq_getElem (by omega)⟩
   refine ⟨⟨hbw.size,fun k o hk1 hk2 hc => hk k o hk2 (by omega) (.inr (by rintro cs fz rfl; cases hc))⟩,?_,?_,?_,?_,h4.trans hbw,Nat.le_trans h6 hbw.size⟩
   ·show w1.heap[_]? = W.heap[_]?
    rw [ho3]
    exact hk _ _ ho3 (by omega) (.inl (by omega))
   ·exact hk _ _ h1 (by omega) (.inl (by omega))
   ·exact hk _ _ h2 (by omega) (.inl (by omega))
   ·rw [outP_snoc]
    have e1 : Lib.byteCells (outP fr to_ pre ++ (swapP fr to_ (t,fl)).data.toList) = Lib.byteCells (outP fr to_ pre) ++ Lib.strCells (swapP fr to_ (t,fl)):=by simp [Lib.byteCells,Lib.strCells]
    rw [e1]
    exact hb
  have hW:=writeString_at (w.heap.size + 4) (w.heap.size + 1 + 1) _ (swapP fr to_ (t,fl)) W h3 (by rw [Lib.byteCells_length]; exact hbnd) h6
  have hy : swapP fr to_ (t,fl) = if fl = true ∧ t = fr then to_ else t:=rfl
  obtain ⟨y,hyy⟩ : ∃ y,swapP fr to_ (t,fl) = y:=⟨_,rfl⟩
  rw [hyy] at hend hW hy
  clear hyy hbnd hpre h1 h2 h3 h4 h6 hs hlen hb0 b4 b5 bs bB hB0 hsz
  replace hend:=Lib.hid hend
  replace hW:=Lib.hid hW
  cases fl with
  | false =>
   rw [if_neg (by simp)] at hy
   subst hy
   gi_wp2_with (refine ⟨trivial,?_⟩; gi_at_call 139; refine (CallsIn.inRound l (callsIn_wide.2 hW.out)).mono ?_; rintro e w1 ⟨rfl,hrest⟩)
   exact hend.out _ _ _ ⟨rfl,hrest⟩
  | true =>
   by_cases htf : t = fr
   ·rw [if_pos ⟨rfl,htf⟩] at hy
    subst hy htf
    gi_wp2_with (refine ⟨trivial,?_⟩; gi_at_call 139; refine (CallsIn.inRound l (callsIn_wide.2 hW.out)).mono ?_; rintro e w1 ⟨rfl,hrest⟩)
    exact hend.out _ _ _ ⟨rfl,hrest⟩
   ·rw [if_neg (fun h => htf h.2)] at hy
    subst hy
    have hne : (y.toList == fr.toList) = false:=by
     rw [beq_eq_false_iff_ne]
     exact fun e => htf (toList_inj e)
    clear htf
    gi_wp2_with (refine ⟨trivial,?_⟩; gi_at_call 139; refine (CallsIn.inRound l (callsIn_wide.2 hW.out)).mono ?_; rintro e w1 ⟨rfl,hrest⟩)
    exact hend.out _ _ _ ⟨rfl,hrest⟩
 case done =>
  rintro D xs W hD hS ⟨h1,h2,h3,h4,h6⟩ hdf
  have hS' : outP fr to_ xs = outP fr to_ (piecesP s):=by rw [show xs = piecesP s from hS]
  rw [hS'] at h3
  clear hS hS' h1 h2 hs hlen hb0 b4 b5 bs bB hB0
  obtain ⟨o,ho⟩ : ∃ o,outP fr to_ (piecesP s) = o:=⟨_,rfl⟩
  rw [ho] at h3
  replace ho:=Lib.hid ho
  have hC:=string_at _ _ _ _ h3
  replace hC:=Lib.hid hC
  gi_wp2_with (refine ⟨trivial,?_⟩; gi_at_call 140; refine (callsIn_wide.2 hC.out).mono ?_; rintro e w1 ⟨rfl,hbl,hk⟩)
  have hdf2:=hk D _ hdf rfl
  refine ⟨by simp,.inl ⟨_,_,rfl,run_takeDeferred hdf2,?_⟩⟩
  refine ⟨.string ⟨o.toArray⟩,by simp [results,Tryz.results104,go_sem],by rw [ho.out],?_⟩
  exact (h4.trans (hbl w.heap.size (by omega))).trans (belowK_b (w:=w) (Nat.le_refl _) _ D _ _ (by omega) hdf2 rfl rfl)
 case stop => exact fun D pre W _ _ h _ => h.elim
/-- lines.Replace. -/
theorem replace_at (s fr to_ : ByteArray) (w : World) (hs : s.size ≤ 1000000000) (ht : to_.size ≤ 100000) (hf : tokenB fr = true) :
  Calls Tryz.prog 104 #[.string s,.string fr,.string to_] w fun e w' => e = .returned (.string (replV s fr to_)) ∧ Below w.heap.size w w':=by
 have hl : (outP fr to_ (piecesP s)).length ≤ 140737488355328:=by
  have h1:=outP_bound fr to_ (piecesP s)
  rw [piecesP_sum] at h1
  have h2 : (piecesP s).length * to_.size ≤ 1000000000 * 100000:=Nat.mul_le_mul (Nat.le_trans (piecesP_len s) hs) ht
  omega
 have h:=callsIn_wide.1 (replace_in s fr to_ w (by omega) hl)
 rw [outP_repl s fr to_ hf] at h
 exact h
end Go.Proofs.YthhohbidjhcjeaaGreatDoor.H
namespace Go.Proofs.YthhohbidjhcjeaaGreatDoor.H
open Go.RowKit Go.Proofs.YthhohbidjhcjeaaGreatDoorW.PrintWords Go.Proofs.YthhohbidjhcjeaaGreatDoorW.PrintLast Go.Proofs.YthhohbidjhcjeaaGreatDoorW.PrintMore
open Go.Proofs.YthhohbidjhcjeaaGreatDoor.Q Go.Proofs.YthhohbidjhcjeaaGreatDoor.Pl
set_option linter.unusedSimpArgs false
set_option linter.unusedVariables false
theorem map_toList_inj : ∀ {a b : List ByteArray},a.map ByteArray.toList = b.map ByteArray.toList → a = b
 | [],[],_ => rfl
 | [],_ :: _,h => by cases h
 | _ :: _,[],h => by cases h
 | x :: a,y :: b,h => by
  simp only [List.map_cons,List.cons.injEq] at h
  rw [toList_inj h.1,map_toList_inj h.2]def eqL (a b : List ByteArray) : Bool:=decide (a.map ByteArray.toList = b.map ByteArray.toList)
theorem eqL_iff (a b : List ByteArray) : eqL a b = true ↔ a = b:=⟨fun h => map_toList_inj (of_decide_eq_true h),fun h => decide_eq_true (by rw [h])⟩
theorem eqL_cons (a b : ByteArray) (x y : List ByteArray) : eqL (a :: x) (b :: y) = (decide (a.toList = b.toList) && eqL x y):=by
 apply Bool.eq_iff_iff.2
 simp only [Bool.and_eq_true,decide_eq_true_eq,eqL_iff,List.cons.injEq]
 exact ⟨fun h => ⟨by rw [h.1],h.2⟩,fun h => ⟨toList_inj h.1,h.2⟩⟩
theorem equal_l (a b : List ByteArray) (hl : a.length = b.length) (hn : a.length ≤ 140737488355328) : ∀ (d i : Nat),i + d = a.length → Ev (fun k => slices_Equal_string_string.l0 k a b (a.length : Int) (i : Int)) (eqL (a.drop i) (b.drop i)):=by
 intro d
 induction d with
 | zero =>
  intro i hi
  refine Ev.step (f:=fun _ => some (eqL (a.drop i) (b.drop i))) (fun k => ?_) (Ev.now _)
  simp only [slices_Equal_string_string.l0]
  rw [if_neg (by omega),List.drop_of_length_le (by omega),List.drop_of_length_le (by omega)]
  rfl
 | succ d ih =>
  intro i hi
  have h1 : i < a.length:=by omega
  have h2 : i < b.length:=by omega
  have ea : a.drop i = a[i] :: a.drop (i + 1):=List.drop_eq_getElem_cons h1
  have eb : b.drop i = b[i] :: b.drop (i + 1):=List.drop_eq_getElem_cons h2
  rw [ea,eb,eqL_cons]
  by_cases hc : a[i].toList = b[i].toList
  ·rw [decide_eq_true hc,Bool.true_and]
   refine Ev.step (f:=fun k => slices_Equal_string_string.l0 k a b (a.length : Int) ((i + 1 : Nat) : Int)) (fun k => ?_) (ih (i + 1) (by omega))
   simp only [slices_Equal_string_string.l0]
   rw [if_pos (by omega),if_pos (by omega),if_pos (by omega),if_pos (by omega),rdOf_get _ _ h1,rdOf_get _ _ h2,if_pos hc,wrap_1 h1 hn]
  ·rw [decide_eq_false hc,Bool.false_and]
   refine Ev.step (f:=fun _ => some false) (fun k => ?_) (Ev.now _)
   simp only [slices_Equal_string_string.l0]
   rw [if_pos (by omega),if_pos (by omega),if_pos (by omega),if_pos (by omega),rdOf_get _ _ h1,rdOf_get _ _ h2,if_neg hc]
theorem equal_list (a b : List ByteArray) (hn : a.length ≤ 140737488355328) : Ev (fun k => slices_Equal_string_string.f k a b) (eqL a b):=by
 by_cases hl : a.length = b.length
 ·have h:=equal_l a b hl hn a.length 0 (by omega)
  rw [List.drop_zero,List.drop_zero] at h
  refine Ev.congr (fun k => ?_) h
  unfold slices_Equal_string_string.f
  rw [if_pos (by omega)]
  rfl
 ·have e : eqL a b = false:=by
   rw [Bool.eq_false_iff]
   intro h
   exact hl (by rw [(eqL_iff _ _).1 h])
  rw [e]
  refine Ev.congr (fun k => ?_) (Ev.now _)
  unfold slices_Equal_string_string.f
  rw [if_neg (by omega)]
theorem equal_at (a b : List ByteArray) (A : Option Addr) (c : Nat) (B : Option Addr) (d : Nat) (w : World) (hn : a.length ≤ 140737488355328) (ga : Kd.C Kd.string w A a.length a) (hc : a.length ≤ c) (gb : Kd.C Kd.string w B b.length b) (hd : b.length ≤ d) :
  Calls Tryz.prog 135 #[.slice A a.length c,.slice B b.length d] w fun e w' => e = .returned (.bool (eqL a b)) ∧ Below w.heap.size w w':=by
 obtain ⟨k,hk⟩:=(equal_list a b hn).rounds
 exact (slices_Equal_string_string.calls k A c a B d b _ w ga hc gb hd hk).mono (fun _ _ ⟨he,hb⟩ => ⟨he,hb.below⟩)

/-- Three rows of texts in a block, made one. -/
theorem concat3_at (w' : World) (B : Nat) (A A2 A3 : Option Addr) (c c2 c3 : Nat) (m1 m2 m3 : List ByteArray) (hB : B ≤ w'.heap.size) (g1 : Kd.string.C w' A m1.length m1) (g2 : Kd.string.C w' A2 m2.length m2) (g3 : Kd.string.C w' A3 m3.length m3) (hn : m1.length + m2.length + m3.length ≤ 1256584717458) :
  Calls Tryz.prog 136 #[.slice (some ⟨w'.heap.size,0,none⟩) 3 3] ((w'.alloc (.cells #[.slice A m1.length c,.slice A2 m2.length c2,.slice A3 m3.length c3] 23)).drew) fun e W' => ∃ Y d,e = .returned (.slice Y (m1 ++ m2 ++ m3).length d) ∧ RowS w' W' (.slice Y (m1 ++ m2 ++ m3).length d) (m1 ++ m2 ++ m3) ∧ Below w'.heap.size w' W':=by
 have hb : Below w'.heap.size w' ((w'.alloc (.cells #[.slice A m1.length c,.slice A2 m2.length c2,.slice A3 m3.length c3] 23)).drew):=below_drew (below_alloc (Below.refl _ _) _)
 have hf : flatS [(A,c,m1),(A2,c2,m2),(A3,c3,m3)] = m1 ++ m2 ++ m3:=by simp [flatS]
 have h:=concatS_at [(A,c,m1),(A2,c2,m2),(A3,c3,m3)] w'.heap.size 3 ((w'.alloc (.cells #[.slice A m1.length c,.slice A2 m2.length c2,.slice A3 m3.length c3] 23)).drew) (fun j r hj => by
   have hblk:=blk_drew (blk_new w' (.cells #[.slice A m1.length c,.slice A2 m2.length c2,.slice A3 m3.length c3] 23))
   rw [blk_cell hblk]
   match j,hj with
   | 0,hj => rw [← Option.some.inj hj]; rfl
   | 1,hj => rw [← Option.some.inj hj]; rfl
   | 2,hj => rw [← Option.some.inj hj]; rfl
   | _ + 3,hj => simp at hj) (fun r hr => by
   simp only [List.mem_cons,List.not_mem_nil,or_false] at hr
   rcases hr with rfl | rfl | rfl
   ·exact ReadsRow.imp_ g1 hb (fun _ _ h => h)
   ·exact ReadsRow.imp_ g2 hb (fun _ _ h => h)
   ·exact ReadsRow.imp_ g3 hb (fun _ _ h => h)) (by rw [hf,List.length_append,List.length_append]; exact hn) (by simp)
 rw [hf] at h
 refine h.mono ?_
 rintro e W' ⟨v,rfl,hr,hb2⟩
 obtain ⟨Y,d,rfl,hd⟩:=hr.slice
 exact ⟨Y,d,rfl,OwnRow.lower hr hb.size,hb.trans (hb2.mono hb.size)⟩
set_option maxHeartbeats 4000000 in
set_option maxRecDepth 1000000 in
theorem diffApply_at (L O N : List ByteArray) (A : Option Addr) (c : Nat) (a : Nat) (AO : Option Addr) (cO : Nat) (AN : Option Addr) (cN : Nat) (W : World) (gL : Kd.string.C W A L.length L) (lL : L.length ≤ c) (gO : Kd.string.C W AO O.length O) (lO : O.length ≤ cO) (gN : Kd.string.C W AN N.length N) (lN : N.length ≤ cN)
  (ha : a ≤ 1073741824) (hl1 : L.length ≤ 1000000000) (hl2 : O.length ≤ 1000000000) (hl3 : N.length ≤ 1000000000) :
  Calls Tryz.prog 101 #[.slice A L.length c,.agg #[.int .i64 (a : Int),.slice AO O.length cO,.slice AN N.length cN]] W fun e W' => Below W.heap.size W W' ∧
   ∃ Y d,e = .returned (.tuple #[.slice Y ((hunkV L a O N).getD []).length d,.bool (hunkV L a O N).isSome]) ∧ ∀ M,hunkV L a O N = some M → RowS W W' (.slice Y M.length d) M:=by
 have HB : Aside0 (Below W.heap.size W (W.alloc (.cells #[.int .i64 (a : Int),.slice AO O.length cO,.slice AN N.length cN] 53))):=⟨below_alloc (Below.refl _ _) _⟩
 have HX : Aside0 ((W.alloc (.cells #[.int .i64 (a : Int),.slice AO O.length cO,.slice AN N.length cN] 53)).heap[W.heap.size]? = some (.cells #[.int .i64 (a : Int),.slice AO O.length cO,.slice AN N.length cN] 53 (0,0))):=⟨blk_new _ _⟩
 have b0:=(blk_cell HX.out 0).trans (show _ = some (Value.int .i64 (a : Int)) from rfl)
 have b1:=(blk_cell HX.out 1).trans (show _ = some (Value.slice AO O.length cO) from rfl)
 have b2:=(blk_cell HX.out 2).trans (show _ = some (Value.slice AN N.length cN) from rfl)
 have e0 : decide ((a : Int) < 0) = false:=decide_eq_false (by omega)
 have GL:=Aside0.mk gL
 have GO:=Aside0.mk gO
 have GN:=Aside0.mk gN
 have H1:=Aside0.mk hl1
 have H2:=Aside0.mk hl2
 have H3:=Aside0.mk hl3
 have LL:=Aside0.mk lL
 have LO:=Aside0.mk lO
 have LN:=Aside0.mk lN
 have hw1 : IntKind.i64.wrap ((L.length : Int) - (a : Int)) = (L.length : Int) - (a : Int):=wrap64_same (by omega) (by omega)
 by_cases h1 : a ≤ L.length
 ·have e1 : decide ((L.length : Int) < (a : Int)) = false:=decide_eq_false (by omega)
  by_cases h2 : a + O.length ≤ L.length
  ·have e2 : decide ((L.length : Int) - (a : Int) < (O.length : Int)) = false:=decide_eq_false (by omega)
   have hw2 : IntKind.i64.wrap ((a : Int) + (O.length : Int)) = (a : Int) + (O.length : Int):=wrap64_same (by omega) (by omega)
   obtain ⟨i0,hi0,_,hsz,_⟩:=info_parts infoS
   obtain ⟨A1,hcut1,hR1,hC1⟩:=print_mid_of (P:=Tryz.prog) Value.string (⟨#[]⟩ : ByteArray) 23 9 .i64 .i64 Tryz.underlying23 hi0 hsz A c L (a : Int) ((a : Int) + (O.length : Int)) (by omega) (by omega) (by omega) lL
   obtain ⟨hcut2,hR2,hC2⟩:=print_take_of (P:=Tryz.prog) Value.string (⟨#[]⟩ : ByteArray) 23 9 .i64 Tryz.underlying23 hi0 hsz A c L (a : Int) (by omega) (by omega) lL
   obtain ⟨A3,hcut3,hR3,hC3⟩:=print_drop_of (P:=Tryz.prog) Value.string (⟨#[]⟩ : ByteArray) 23 9 .i64 Tryz.underlying23 hi0 hsz A c L ((a : Int) + (O.length : Int)) (by omega) (by omega) lL
   have eM : (L.take ((a : Int) + (O.length : Int)).toNat).drop ((a : Int)).toNat = (L.drop a).take O.length:=by
    rw [Int.toNat_natCast,show ((a : Int) + (O.length : Int)).toNat = a + O.length by omega,List.take_drop]
   have eT : L.take ((a : Int)).toNat = L.take a:=by rw [Int.toNat_natCast]
   have eD : L.drop ((a : Int) + (O.length : Int)).toNat = L.drop (a + O.length):=by rw [show ((a : Int) + (O.length : Int)).toNat = a + O.length by omega]
   rw [eM] at hcut1 hR1 hC1
   rw [eT] at hcut2 hR2 hC2
   rw [eD] at hcut3 hR3 hC3
   obtain ⟨m1,hm1⟩ : ∃ m,(L.drop a).take O.length = m:=⟨_,rfl⟩
   obtain ⟨m2,hm2⟩ : ∃ m,L.take a = m:=⟨_,rfl⟩
   obtain ⟨m3,hm3⟩ : ∃ m,L.drop (a + O.length) = m:=⟨_,rfl⟩
   rw [hm1] at hcut1 hR1 hC1
   rw [hm2] at hcut2 hR2 hC2
   rw [hm3] at hcut3 hR3 hC3
   have hm1l : m1.length ≤ 140737488355328:=by rw [← hm1,List.length_take]; omega
   have hmt : Aside0 (m2.length + N.length + m3.length ≤ 1256584717458):=⟨by rw [← hm2,← hm3,List.length_take,List.length_drop]; omega⟩
   have hcv : c - a - 0 = c - a:=by omega
   have HM1:=Aside0.mk hm1
   have HM2:=Aside0.mk hm2
   have HM3:=Aside0.mk hm3
   have K1 : ∀ w,Kd.string.C w A L.length L → Kd.string.C w A1 m1.length m1:=fun w h => Kd.C_of_reads (h1:=fun _ => rfl) (hR1 _ (Kd.reads_of_C h))
   have K2 : ∀ w,Kd.string.C w A L.length L → Kd.string.C w A m2.length m2:=fun w h => Kd.C_of_reads (h1:=fun _ => rfl) (hR2 _ (Kd.reads_of_C h))
   have K3 : ∀ w,Kd.string.C w A L.length L → Kd.string.C w A3 m3.length m3:=fun w h => Kd.C_of_reads (h1:=fun _ => rfl) (hR3 _ (Kd.reads_of_C h))
   have K1':=Aside0.mk K1
   have K2':=Aside0.mk K2
   have K3':=Aside0.mk K3
   have HC1:=Aside0.mk hC1
   have HC2:=Aside0.mk hC2
   have HC3:=Aside0.mk hC3
   have hEq:=fun w (hb : Below W.heap.size W w) => equal_at m1 O A1 (c - (a : Int).toNat) AO cO w hm1l (K1 _ (Kd.C_below gL hb)) hC1 (Kd.C_below gO hb) lO
   rw [Int.toNat_natCast] at hEq hcut1
   clear K1 K2 K3 hR1 hR2 hR3 gL gO gN hl1 hl2 hl3 lL lO lN hm1 hm2 hm3 eM eT eD hi0 hsz hC1 hC2 hC3 hm1l
   obtain ⟨r,hr⟩ : ∃ r,eqL m1 O = r:=⟨_,rfl⟩
   rw [hr] at hEq
   cases r with
   | false =>
    have hv : hunkV L a O N = none:=by
     unfold hunkV
     rw [if_neg]
     rintro ⟨_,_,h⟩
     rw [Int.toNat_natCast,HM1.out] at h
     rw [h,(eqL_iff _ _).mpr rfl] at hr
     cases hr
    rw [hv]
    clear hv hr
    go_enter Tryz.func101,Tryz.ntmps101
    go_wp2
    go_region_held3 (fun U => U.cell? ⟨W.heap.size,0,none⟩ = some (.int .i64 (a : Int)) ∧ U.cell? ⟨W.heap.size,1,none⟩ = some (.slice AO O.length cO)) (first | exact ⟨b0,b1⟩ | exact ⟨pw_cell_below hb b0,pw_cell_below hb b1⟩) ((go_at_call 135; refine (hEq _ (below_drew HB.out)).mono ?_; rintro e w' ⟨rfl,hb⟩))
    all_goals
     go_wp2
     go_ret2
     exact ⟨(below_drew HB.out).trans (hb.mono (below_drew HB.out).size),_,_,rfl,fun M h => by cases h⟩
   | true =>
    have hv : hunkV L a O N = some (m2 ++ N ++ m3):=by
     unfold hunkV
     rw [if_pos,Int.toNat_natCast,HM2.out,HM3.out]
     refine ⟨by omega,by rw [Int.toNat_natCast]; exact h2,?_⟩
     rw [Int.toNat_natCast,HM1.out]
     exact (eqL_iff _ _).mp hr
    obtain ⟨M,hM⟩ : ∃ M,m2 ++ N ++ m3 = M:=⟨_,rfl⟩
    rw [hv,hM]
    have HMM:=Aside0.mk hM
    clear hv hr hM
    go_enter Tryz.func101,Tryz.ntmps101
    go_wp2
    go_region_held3 (fun U => U.cell? ⟨W.heap.size,0,none⟩ = some (.int .i64 (a : Int)) ∧ U.cell? ⟨W.heap.size,1,none⟩ = some (.slice AO O.length cO)) (first | exact ⟨b0,b1⟩ | exact ⟨pw_cell_below hb b0,pw_cell_below hb b1⟩) ((go_at_call 135; refine (hEq _ (below_drew HB.out)).mono ?_; rintro e w' ⟨rfl,hb⟩))
    all_goals
     have b0':=pw_cell_below hb b0
     have b2':=pw_cell_below hb b2
     have hB2:=Aside0.mk ((below_drew HB.out).trans (hb.mono (below_drew HB.out).size))
     clear hb b0 b1 b2 hEq HX HB
     have hCat:=concat3_at w' W.heap.size A AN A3 c cN (c - ((a : Int) + (O.length : Int)).toNat) m2 N m3 hB2.out.size (K2'.out _ (Kd.C_below GL.out hB2.out)) (Kd.C_below GN.out hB2.out) (K3'.out _ (Kd.C_below GL.out hB2.out)) hmt.out
     rw [HMM.out] at hCat
     go_wp2
     go_region_held3 (fun U => U.cell? ⟨W.heap.size,0,none⟩ = some (.int .i64 (a : Int)) ∧ U.cell? ⟨W.heap.size,2,none⟩ = some (.slice AN N.length cN)) (first | exact ⟨b0',b2'⟩ | exact ⟨Lib.cell?_alloc_some _ b0',Lib.cell?_alloc_some _ b2'⟩ | exact ⟨pw_cell_below hb3 b0',pw_cell_below hb3 b2'⟩) ((go_at_call 136; refine hCat.mono ?_; rintro e w3 ⟨Y,d,rfl,hrow,hb3⟩))
     all_goals
      go_wp2
      go_ret2
      exact ⟨hB2.out.trans (hb3.mono hB2.out.size),Y,d,rfl,fun M' h => by rw [← Option.some.inj h]; exact OwnRow.lower hrow hB2.out.size⟩
  ·have e1' : decide ((L.length : Int) - (a : Int) < (O.length : Int)) = true:=decide_eq_true (by omega)
   have hv : hunkV L a O N = none:=by
    unfold hunkV
    rw [if_neg]
    rintro ⟨_,h,_⟩
    rw [Int.toNat_natCast] at h
    omega
   rw [hv]
   clear hv
   go_enter Tryz.func101,Tryz.ntmps101
   go_wp2
   go_ret2
   exact ⟨HB.out,_,_,rfl,fun M h => by cases h⟩
 ·have e1 : decide ((L.length : Int) < (a : Int)) = true:=decide_eq_true (by omega)
  have hv : hunkV L a O N = none:=by
   unfold hunkV
   rw [if_neg]
   rintro ⟨_,h,_⟩
   rw [Int.toNat_natCast] at h
   omega
  rw [hv]
  clear hv
  go_enter Tryz.func101,Tryz.ntmps101
  go_wp2
  go_ret2
  exact ⟨HB.out,_,_,rfl,fun M h => by cases h⟩
end Go.Proofs.YthhohbidjhcjeaaGreatDoor.H
namespace Go.Proofs.YthhohbidjhcjeaaGreatDoor.H
open Go.RowKit Go.Shelf Go.Proofs.YthhohbidjhcjeaaGreatDoorW.PrintWords Go.Proofs.YthhohbidjhcjeaaGreatDoorW.PrintLast Go.Proofs.YthhohbidjhcjeaaGreatDoorW.PrintMore
open Go.Proofs.YthhohbidjhcjeaaGreatDoor.Q Go.Proofs.YthhohbidjhcjeaaGreatDoor.Pl
set_option linter.unusedVariables false
set_option linter.unusedSimpArgs false
set_option maxHeartbeats 8000000 in
set_option maxRecDepth 1000000 in
theorem hunk_at (w : World) (p : S25) (A5 : Option Addr) (c5 : Nat) (A6 : Option Addr) (c6 : Nat) (x : S41) (X : Option Addr) (c g o : Nat) (cur : Array Value) (W : World) (h7 : p.f0 = 7) (ha0 : 0 ≤ p.f4) (ha1 : p.f4 ≤ 1073741824)
  (g5 : Kd.string.C w A5 p.f5.length p.f5) (l5 : p.f5.length ≤ c5) (g6 : Kd.string.C w A6 p.f6.length p.f6) (l6 : p.f6.length ≤ c6) (n5 : p.f5.length ≤ 1000000000) (n6 : p.f6.length ≤ 1000000000) (nx : x.f2.length ≤ 1000000000)
  (hB : Below w.heap.size w W) (hg0 : w.heap.size ≤ g) (hg : W.heap[g]? = some (.cells cur 41 (0,0))) (hx : Ent cur o x X c) (rx : Re w x X c) :
  Calls Tryz.prog 55 #[.pointer (some ⟨g,o,none⟩),.agg #[.int .i64 p.f0,.string p.f1,.string p.f2,.string p.f3,.int .i64 p.f4,.slice A5 p.f5.length c5,.slice A6 p.f6.length c6]] W (Chg w p x g o cur):=by
 obtain ⟨a,ha⟩ : ∃ a : Nat,p.f4 = (a : Int):=⟨p.f4.toNat,by omega⟩
 have hgw : g < W.heap.size:=blk_lt hg
 obtain ⟨W1,hW1⟩ : ∃ W1,W1 = W.alloc (.cells #[.int .i64 p.f0,.string p.f1,.string p.f2,.string p.f3,.int .i64 p.f4,.slice A5 p.f5.length c5,.slice A6 p.f6.length c6] 25):=⟨_,rfl⟩
 have hB1 : Below w.heap.size w W1:=by rw [hW1]; exact below_alloc hB _
 have hg1 : W1.heap[g]? = some (.cells cur 41 (0,0)):=by rw [hW1]; exact blk_alloc hg _
 obtain ⟨b0,b1,b2,b3,b4,b5,b6⟩:=cells7 (show W1.heap[W.heap.size]? = _ by rw [hW1]; exact blk_new W (.cells #[.int .i64 p.f0,.string p.f1,.string p.f2,.string p.f3,.int .i64 p.f4,.slice A5 p.f5.length c5,.slice A6 p.f6.length c6] 25))
 obtain ⟨c0,c1,c2,c3⟩:=ent_cells hg1 hx
 have hc : changeV x p = (hunkV x.f2 p.f4 p.f5 p.f6).map (fun l => { x with f2:=l }):=by unfold changeV; rw [if_pos h7]
 have hCall:=diffApply_at x.f2 p.f5 p.f6 X c a A5 c5 A6 c6 W1.drew (Kd.C_below rx.g (below_drew hB1)) rx.l (Kd.C_below g5 (below_drew hB1)) l5 (Kd.C_below g6 (below_drew hB1)) l6 (by omega) nx n5 n6
 rw [← ha] at hCall
 have hend : ∀ (r : Option (List ByteArray)) (W2 : World) (Y : Option Addr) (d : Nat),hunkV x.f2 p.f4 p.f5 p.f6 = r → Below W1.drew.heap.size W1.drew W2 → (∀ M,r = some M → RowS W1.drew W2 (.slice Y M.length d) M) → Chg w p x g o cur (.returned (.bool r.isSome)) (W2.setCell ⟨g,o + 2,none⟩ (.slice Y (r.getD []).length d)):=by
  intro r W2 Y d hr hb2 hM
  have hB2 : Below w.heap.size w W2:=(below_drew hB1).trans (hb2.mono (below_drew hB1).size)
  have hg2 : W2.heap[g]? = some (.cells cur 41 (0,0)):=blk_below (blk_drew hg1) hb2
  have hb : Below w.heap.size w (W2.setCell ⟨g,o + 2,none⟩ (.slice Y (r.getD []).length d)):=below_set hB2 hg0
  refine ⟨by rw [hc,hr]; cases r <;> rfl,hb,_,blk_set hg2 (o + 2) _,same_set o 2 (by omega) _ _,fun y hy => ?_⟩
  rw [hc,hr] at hy
  obtain ⟨M,hM1,rfl⟩:=Option.map_eq_some_iff.mp hy
  subst hM1
  have hrow:=hM M rfl
  have hrow2 : RowS W1.drew (W2.setCell ⟨g,o + 2,none⟩ (.slice Y M.length d)) (.slice Y M.length d) M:=OwnRow.set_ hrow hg2 (by decide) _ _
  obtain ⟨Y',d',he,hd,hcm⟩:=hrow2.C
  injection he with e1 e2 e3
  subst e1
  subst e3
  exact ⟨Y,d,ent_set2 hx M Y d,hd,hcm⟩
 have HEND:=Aside0.mk hend
 obtain ⟨r,hr⟩ : ∃ r,hunkV x.f2 p.f4 p.f5 p.f6 = r:=⟨_,rfl⟩
 rw [hr] at hCall
 have HR:=Aside0.mk hr
 have f2:=blk_frozen hg1 (o + 2)
 have HG1:=Aside0.mk hg1
 clear hend hc rx hB hg0 hg h7 ha0 ha1 ha g5 l5 g6 l6 n5 n6 nx hr b0 b1 b2 b3 c0 c1 c3 hB1
 subst hW1
 go_enter Tryz.func55,Tryz.ntmps55
 go_wp2
 go_region_held3 (fun U => U.cell? ⟨g,o + 2,none⟩ = some (.slice X x.f2.length c) ∧ U.cell? ⟨W.heap.size,4,none⟩ = some (.int .i64 p.f4) ∧ U.cell? ⟨W.heap.size,5,none⟩ = some (.slice A5 p.f5.length c5) ∧ U.cell? ⟨W.heap.size,6,none⟩ = some (.slice A6 p.f6.length c6)) (first | exact ⟨c2,b4,b5,b6⟩ | exact ⟨pw_cell_below hb c2,pw_cell_below hb b4,pw_cell_below hb b5,pw_cell_below hb b6⟩) ((go_at_call 101; refine hCall.mono ?_; rintro e w' ⟨hb,Y,d,rfl,hM⟩))
 all_goals
  have f2':=blk_frozen (blk_below (blk_drew HG1.out) hb) (o + 2)
  have c2':=pw_cell_below hb c2
  go_wp2
  go_ret
  exact HEND.out _ _ _ _ HR.out hb hM
end Go.Proofs.YthhohbidjhcjeaaGreatDoor.H
namespace Go.Proofs.YthhohbidjhcjeaaGreatDoor.H
open Go.RowKit Go.Shelf Go.Proofs.YthhohbidjhcjeaaGreatDoorW.PrintWords Go.Proofs.YthhohbidjhcjeaaGreatDoorW.PrintLast Go.Proofs.YthhohbidjhcjeaaGreatDoorW.PrintMore
open Go.Proofs.YthhohbidjhcjeaaGreatDoor.Q Go.Proofs.YthhohbidjhcjeaaGreatDoor.Pl
set_option linter.unusedVariables false
set_option linter.unusedSimpArgs false
theorem one_news {W : World} {b : Nat} {u : Value} (h : W.cell? ⟨b,0,none⟩ = some u) : ∀ j x,[u][j]? = some x → W.cell? ((⟨b,0,none⟩ : Addr).add j) = some x:=by
 intro j x hx
 rcases j with _ | j
 ·simp only [List.getElem?_cons_zero,Option.some.injEq] at hx
  subst hx
  exact h
 ·simp at hx
theorem containsS_at (w U : World) (v : Value) (xs : List ByteArray) (h : RowS w U v xs) (x : ByteArray) :
  Calls Tryz.prog 102 #[v,.string x] U fun e w' => e = .returned (.bool (Lib.containsS xs x)) ∧ w' = U:=by
 obtain ⟨A,c,rfl,hc,hr⟩:=OwnRow.reads h
 rcases Nat.eq_zero_or_pos xs.length with h0 | h0
 ·rw [h0]
  rw [List.length_eq_zero_iff] at h0
  subst h0
  exact Tryz.slices_Contains_string_empty A c x U
 ·obtain ⟨ad,rfl,hcell⟩:=hr.2.2 h0
  have hpl : ad = ⟨ad.block,ad.off,none⟩:=by
   obtain ⟨inner,⟨_,⟨e,_⟩ | ⟨g,cap,cur,e,_⟩⟩,_⟩:=h
   ·cases e
   ·cases e; rfl
  obtain ⟨b,off,hbo⟩ : ∃ b off,ad = ⟨b,off,none⟩:=⟨_,_,hpl⟩
  subst hbo
  have hcc : ∀ j,j < xs.length → U.cell? ⟨b,off + j,none⟩ = some (.string (xs.getD j ByteArray.empty)):=by
   intro j hj
   obtain ⟨cs,hl,hR,hu⟩:=hcell j _ (List.getElem?_eq_getElem hj)
   have:=hu 0 (.string xs[j]) (by rw [show cs = [.string xs[j]] from hR]; rfl)
   rw [Nat.mul_one,Nat.add_zero] at this
   rw [List.getD_eq_getElem?_getD,List.getElem?_eq_getElem hj]
   rw [show (⟨b,off,none⟩ : Addr).add j = ⟨b,off + j,none⟩ from by simp [Addr.add]] at this
   exact this
  have h:=Tryz.slices_Contains_string b off xs.length c xs x U (Nat.le_refl _) hr.2.1 hcc
  rw [List.take_length] at h
  exact h
theorem tok_any (l : List ByteArray) (fr to_ : ByteArray) : tokV l fr to_ = if l.any (fun s => Lib.containsS (piecesV s) to_) then none else some (l.map (fun s => replV s fr to_)):=by
 have key : ∀ s,(runs s.data.toList).contains to_.data.toList = Lib.containsS (piecesV s) to_:=by
  intro s
  rw [Bool.eq_iff_iff,List.contains_iff_mem,Lib.containsS_iff]
  unfold piecesV
  rw [List.mem_map]
  constructor
  ·intro h; exact ⟨_,h,rfl⟩
  ·rintro ⟨r,hr,e⟩
   rw [← e]
   exact hr
 unfold tokV
 simp only [key]
theorem tok_no {l : List ByteArray} {fr to_ : ByteArray} {s : ByteArray} (hs : s ∈ l) (h : Lib.containsS (piecesV s) to_ = true) : tokV l fr to_ = none:=by
 rw [tok_any,if_pos (List.any_eq_true.2 ⟨s,hs,h⟩)]
theorem tok_yes {l : List ByteArray} {fr to_ : ByteArray} (h : ∀ s ∈ l,Lib.containsS (piecesV s) to_ = false) : tokV l fr to_ = some (l.map (fun s => replV s fr to_)):=by
 rw [tok_any,if_neg]
 rw [List.any_eq_true]
 rintro ⟨s,hs,h2⟩
 rw [h s hs] at h2
 cases h2
set_option maxHeartbeats 4000000 in
set_option maxRecDepth 1000000 in
theorem token_at (w : World) (p : S25) (v5 v6 : Value) (x : S41) (X : Option Addr) (c g o : Nat) (cur : Array Value) (W : World) (h5 : v5.oneCell' = true) (h6 : v6.oneCell' = true) (h8 : p.f0 = 8)
  (htk : tokenB p.f3 = true) (ht2 : p.f2.size ≤ 100000) (nx : x.f2.length ≤ 1000000000) (nl : ∀ s ∈ x.f2,s.size ≤ 1000000000)
  (hB : Below w.heap.size w W) (hg0 : w.heap.size ≤ g) (hg : W.heap[g]? = some (.cells cur 41 (0,0))) (hx : Ent cur o x X c) (rx : Re w x X c) :
  Calls Tryz.prog 56 #[.pointer (some ⟨g,o,none⟩),.agg #[.int .i64 p.f0,.string p.f1,.string p.f2,.string p.f3,.int .i64 p.f4,v5,v6]] W (Chg w p x g o cur):=by
 have hgw : g < W.heap.size:=blk_lt hg
 obtain ⟨W1,hW1⟩ : ∃ W1,W1 = W.alloc (.cells #[.int .i64 p.f0,.string p.f1,.string p.f2,.string p.f3,.int .i64 p.f4,v5,v6] 25):=⟨_,rfl⟩
 have hB1 : Below w.heap.size w W1:=by rw [hW1]; exact below_alloc hB _
 have hg1 : W1.heap[g]? = some (.cells cur 41 (0,0)):=by rw [hW1]; exact blk_alloc hg _
 obtain ⟨b0,b1,b2,b3,b4,b5,b6⟩:=cells7 (show W1.heap[W.heap.size]? = _ by rw [hW1]; exact blk_new W (.cells #[.int .i64 p.f0,.string p.f1,.string p.f2,.string p.f3,.int .i64 p.f4,v5,v6] 25))
 obtain ⟨c0,c1,c2,c3⟩:=ent_cells hg1 hx
 have hc : changeV x p = (tokV x.f2 p.f3 p.f2).map (fun l => { x with f2:=l }):=by unfold changeV; rw [if_neg (by omega),if_pos h8]
 have hno : ∀ W2,Below W1.heap.size W1 W2 → tokV x.f2 p.f3 p.f2 = none → Chg w p x g o cur (.returned (.bool false)) W2:=by
  intro W2 hb2 hn
  refine ⟨by rw [hc,hn]; rfl,hB1.trans (hb2.mono hB1.size),cur,blk_below hg1 hb2,⟨rfl,fun _ _ => rfl⟩,fun y hy => ?_⟩
  rw [hc,hn] at hy
  cases hy
 have hend : ∀ (W2 : World) (Y : Option Addr) (d : Nat),Below W1.heap.size W1 W2 → tokV x.f2 p.f3 p.f2 = some (x.f2.map (fun s => replV s p.f3 p.f2)) → RowS W1 W2 (.slice Y x.f2.length d) (x.f2.map (fun s => replV s p.f3 p.f2)) →
   Chg w p x g o cur (.returned (.bool true)) (W2.setCell ⟨g,o + 2,none⟩ (.slice Y x.f2.length d)):=by
  intro W2 Y d hb2 hs hrow
  have hB2 : Below w.heap.size w W2:=hB1.trans (hb2.mono hB1.size)
  have hg2 : W2.heap[g]? = some (.cells cur 41 (0,0)):=blk_below hg1 hb2
  have hb : Below w.heap.size w (W2.setCell ⟨g,o + 2,none⟩ (.slice Y x.f2.length d)):=below_set hB2 hg0
  refine ⟨by rw [hc,hs]; rfl,hb,_,blk_set hg2 (o + 2) _,same_set o 2 (by omega) _ _,fun y hy => ?_⟩
  rw [hc,hs] at hy
  rw [← Option.some.inj hy]
  have hrow2 : RowS W1 (W2.setCell ⟨g,o + 2,none⟩ (.slice Y x.f2.length d)) (.slice Y x.f2.length d) _:=OwnRow.set_ hrow hg2 (by decide) _ _
  obtain ⟨Y',d',he,hd,hcm⟩:=hrow2.C
  injection he with e1 e2 e3
  subst e1
  subst e3
  have hlen : x.f2.length = (x.f2.map (fun s => replV s p.f3 p.f2)).length:=by simp
  have hent:=ent_set2 hx (x.f2.map (fun s => replV s p.f3 p.f2)) Y d
  rw [← hlen] at hent
  exact ⟨Y,d,hent,hd,hcm⟩
 have hrd : ∀ (i : Nat) (hi : i < x.f2.length),∃ ad,X = some ad ∧ W1.cell? (ad.add i) = some (.string x.f2[i]):=by
  intro i hi
  have hC:=Kd.C_below rx.g hB1
  obtain ⟨ad,he,hcell⟩:=hC.2.2 (by omega)
  obtain ⟨cs,hl,hR,hu⟩:=hcell i _ (List.getElem?_eq_getElem hi)
  refine ⟨ad,he,?_⟩
  have:=hu 0 (.string x.f2[i]) (by rw [show cs = [.string x.f2[i]] from hR]; rfl)
  rw [show i * Kd.string.sz + 0 = i from Nat.mul_one i] at this
  exact this
 obtain ⟨l,hl⟩ : ∃ l,x.f2 = l:=⟨_,rfl⟩
 rw [hl] at hend hno hrd nx nl c2
 obtain ⟨n,hn⟩ : ∃ n,l.length = n:=⟨_,rfl⟩
 have HN:=Aside0.mk hn
 have HEND:=Aside0.mk hend
 have HNO:=Aside0.mk hno
 have HRD:=Aside0.mk hrd
 have HNL:=Aside0.mk nl
 have HTK:=Aside0.mk htk
 have HG1:=Aside0.mk hg1
 have f2:=blk_frozen hg1 (o + 2)
 obtain ⟨i0',hi',hz0,hz1,hz2⟩:=info_parts infoS
 replace hi':=Aside0.mk hi'
 replace hz0:=Aside0.mk hz0
 replace hz1:=Aside0.mk hz1
 replace hz2:=Aside0.mk hz2
 rw [hn] at c2 nx
 clear hend hno hrd nl htk hg1 hc rx hx hB hg0 hg h8 hn hl b0 b1 b4 b5 b6 c0 c1 c3 hB1
 have HC2:=Aside0.mk c2
 have hWs : W.heap.size < W1.heap.size:=by rw [hW1,World.size_alloc]; omega
 have hg1s : g < W1.heap.size:=by omega
 go_enter Tryz.func56,Tryz.ntmps56
 rw [hW1] at c2
 go_wp2
 rw [← hW1]
 go_loopg [5,13] n (fun kq u5 u13 w' => ∃ (i : Nat),u13 = .int .i64 (i : Int) ∧ Aside0 (i + kq = n) ∧ Aside0 (∀ s ∈ l.take i,Lib.containsS (piecesV s) p.f2 = false) ∧ Aside0 (RowS W1 w' u5 ((l.take i).map (fun s => replV s p.f3 p.f2))) ∧ Aside0 (Below W1.heap.size W1 w'))
 case atStart => exact ⟨0,rfl,⟨by omega⟩,⟨by simp⟩,⟨rowS_nil _ _⟩,⟨Below.refl _ _⟩⟩
 case round =>
  obtain ⟨i,rfl,hk,hnc,hR,hB⟩:=hrel
  by_cases hi : i < n
  ·have hil : i < l.length:=by rw [HN.out]; exact hi
   obtain ⟨ad,hX,hcell⟩:=HRD.out i hil
   subst hX
   have hcmp : decide ((i : Int) < (n : Int)) = true:=decide_eq_true (by omega)
   have i0 : (0 : Int) ≤ (i : Int):=by omega
   have i1 : (i : Int) < (n : Int):=by omega
   have hwi : IntKind.i64.wrap ((i : Int) + 1) = (i : Int) + 1:=wrap_small _ (by omega) (by omega)
   have hcw:=pw_cell_below hB.out hcell
   have d2:=pw_cell_below hB.out b2
   have d3:=pw_cell_below hB.out b3
   have htake : l.take (i + 1) = l.take i ++ [l[i]]:=by rw [List.take_append_getElem]
   have hsl:=HNL.out l[i] (List.getElem_mem _)
   have hsm : l[i] ∈ l:=List.getElem_mem _
   have hlm : ((l.take i).map (fun s => replV s p.f3 p.f2)).length = i:=by rw [List.length_map,List.length_take]; omega
   obtain ⟨s,hs⟩ : ∃ s,l[i] = s:=⟨_,rfl⟩
   rw [hs] at hcw htake hsl hsm
   obtain ⟨r,hr⟩ : ∃ r,Lib.containsS (piecesV s) p.f2 = r:=⟨_,rfl⟩
   have hT:=tokens_at s wr.drew hsl
   have hCo : ∀ U v,RowS wr.drew U v (piecesV s) → Calls Tryz.prog 102 #[v,.string p.f2] U fun e w' => e = .returned (.bool r) ∧ w' = U:=fun U v h => by rw [← hr]; exact containsS_at _ _ _ _ h _
   have hRp:=fun U => replace_at s p.f3 p.f2 U hsl ht2 HTK.out
   obtain ⟨y,hy⟩ : ∃ y,replV s p.f3 p.f2 = y:=⟨_,rfl⟩
   rw [hy] at hRp
   obtain ⟨inner5,hown,hr5⟩:=hR.out
   rw [hlm] at hown
   have hn1 : Aside0 (i + 1 ≤ maxLen):=⟨by unfold maxLen; omega⟩
   have hn2 : Aside0 ((i + 1) * 16 ≤ 140737488355328):=⟨by omega⟩
   replace hown:=Aside0.mk hown
   replace hr5:=Aside0.mk hr5
   replace hr:=Aside0.mk hr
   replace hy:=Aside0.mk hy
   replace htake:=Aside0.mk htake
   replace hsm:=Aside0.mk hsm
   replace hlm:=Aside0.mk hlm
   clear hcell hs hsl c2
   cases r with
   | true =>
    go_upto_region 5 with (fail)
    go_region_held3 (fun U => U.cell? ⟨W.heap.size,2,none⟩ = some (.string p.f2)) (first | exact d2 | exact pw_cell_below hb d2) (first | (go_at_call 103; refine hT.mono ?_; rintro e w2 ⟨v,rfl,hrow,hb⟩) | (go_at_call 102; refine (hCo _ _ hrow).mono ?_; rintro e w3 ⟨rfl,rfl⟩))
    all_goals go_wp2
    all_goals go_ret
    all_goals exact HNO.out _ (hB.out.trans (((below_drew (Below.refl _ _)).trans (hb.mono (Nat.le_refl _))).mono hB.out.size)) (tok_no hsm.out hr.out)
   | false =>
    go_upto_region 5 with (fail)
    go_region_held3 (fun U => U.cell? ⟨W.heap.size,2,none⟩ = some (.string p.f2)) (first | exact d2 | exact pw_cell_below hb d2) (first | (go_at_call 103; refine hT.mono ?_; rintro e w2 ⟨v,rfl,hrow,hb⟩) | (go_at_call 102; refine (hCo _ _ hrow).mono ?_; rintro e w3 ⟨rfl,rfl⟩))
    all_goals
     have hb4 : Below wr.heap.size wr w3:=(below_drew (Below.refl _ _)).trans (hb.mono (Nat.le_refl _))
     have d2':=pw_cell_below hb4 d2
     have d3':=pw_cell_below hb4 d3
     replace hrow:=Aside0.mk hrow
     replace hb4:=Aside0.mk hb4
     clear hb hCo hT d2 d3 b2 b3 hcw
     go_wp2_with (first
      | (go_at_call 104; refine (hRp _).mono ?_; rintro e w5 ⟨rfl,hb3⟩; have hb5 : Below wr.heap.size wr (w5.alloc (.cells #[.string y] 9)):=below_alloc (hb4.out.trans (hb3.mono hb4.out.size)) _; have hcy:=(Boxed.new w5 9 (.string y)).cell; replace hb5:=Aside0.mk hb5; replace hb3:=Aside0.mk hb3; replace hcy:=Aside0.mk hcy)
      | (at_builtin; refine wpList_append_own_at _ rfl _ _ 23 rfl W1.heap.size 9 i0' _ 1 16 Tryz.underlying23 hi'.out hz0.out hz1.out hz2.out rfl (by omega) _ _ _ rfl (pw_own_below hown.out hb5.out) ⟨w5.heap.size,0,none⟩ 1 1 [.string y] rfl rfl (one_news hcy.out) (by simp [Value.oneCell']) hn1.out hn2.out (Nat.le_trans hB.out.size hb5.out.size) ?_; intro v' w4 hown4 hgrow hnil hblk; have hB4 : Below W1.heap.size W1 w4:=(hB.out.trans (hb5.out.mono hB.out.size)).grown hgrow (Nat.le_trans hB.out.size hb5.out.size) (fun k hk => own_base hown.out k hk); replace hB4:=Aside0.mk hB4; replace hown4:=Aside0.mk hown4; clear hgrow hnil hblk))
     have hR4 : Aside0 (RowS W1 w4 v' ((l.take (i + 1)).map (fun s => replV s p.f3 p.f2))):=⟨by
      rw [htake.out,List.map_append,List.map_cons,List.map_nil,hy.out]
      refine ⟨_,?_,Reps.snoc (c:=[.string y]) (p:=y) hr5.out rfl rfl⟩
      rw [List.length_append,hlm.out]
      exact hown4.out⟩
     have hnc4 : Aside0 (∀ t ∈ l.take (i + 1),Lib.containsS (piecesV t) p.f2 = false):=⟨by
      rw [htake.out]
      intro t ht
      rcases List.mem_append.1 ht with ht | ht
      ·exact hnc.out t ht
      ·rw [List.mem_singleton.1 ht]
       exact hr.out⟩
     go_roundg (n - (i + 1))
     case measure => have:=hk.out; omega
     case rel => exact ⟨i + 1,by simp,⟨by omega⟩,hnc4,hR4,hB4⟩
  ·have hcmp : decide ((i : Int) < (n : Int)) = false:=decide_eq_false (by omega)
   have hin : i = n:=by have:=hk.out; omega
   have htk : l.take i = l:=by rw [hin,← HN.out,List.take_length]
   rw [htk] at hR hnc
   have hyes : Aside0 (tokV l p.f3 p.f2 = some (l.map (fun s => replV s p.f3 p.f2))):=⟨tok_yes hnc.out⟩
   obtain ⟨Y,d,hu5,hd⟩:=hR.out.slice
   rw [List.length_map,HN.out] at hu5
   subst hu5
   have c2w:=pw_cell_below hB.out HC2.out
   have f2w:=blk_frozen (blk_below HG1.out hB.out) (o + 2)
   have HE:=Aside0.mk (HEND.out wr Y d hB.out hyes.out)
   rw [HN.out] at HE
   clear hd hin htk c2 f2
   go_wp2
   go_ret
   exact HE.out hR.out
end Go.Proofs.YthhohbidjhcjeaaGreatDoor.H
