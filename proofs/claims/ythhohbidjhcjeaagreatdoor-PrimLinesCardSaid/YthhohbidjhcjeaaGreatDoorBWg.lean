/- More of the words of the walks. -/
import Derived.Test.YthhohbidjhcjeaaGreatDoorBWd
import Derived.Test.YthhohbidjhcjeaaGreatDoorBWe
import Derived.Test.YthhohbidjhcjeaaGreatDoorBWf
import Derived.Below
import Derived.Deep.Draws
import Derived.Deep.AppendLies
import Derived.Maps.AppendAt
import Derived.OwnWalk
import Derived.Laws.BytesArg
import Derived.Laws.MakeOwn
import Derived.Laws.OwnMore
import Derived.Deep.OwnRows
import Derived.Tactics
import Derived.Lib.ConvBytes
import Derived.Laws.Slices
import Derived.WalkKit
import Derived.KernelRfl
import Derived.RowKit3
import Derived.Deep.LoopGhost
import Derived.Deep.QuietTactic
import Derived.BigQuiet
import Derived.WideLaws
import Derived.Deep.DeepCutAuto
import Derived.Deep.CutBlock
import Derived.Deep.RegionHeld3
import Derived.Laws.Rows
import Derived.Lib.AppendStr
import Derived.ArgAppend
import Derived.Laws.IdiomCopy
import Derived.RowKit
import Derived.OrdersHeld
import Derived.Laws.BitsLemmas
import Derived.Laws.StructEq
-- PRINTED WORDS (module Derived/Print/Words.lean): go-wishes' parts 1 to 38 and go-gate-2's additions: AI agents of Go's test side, Mon Nov 16 2026; no person has read them. Plain theorems and definitions: no macro, no elab, no axiom.
set_option linter.unusedVariables false
set_option linter.unusedSimpArgs false
namespace Go.Proofs.YthhohbidjhcjeaaGreatDoorW.PrintWords
open Go.RowKit

/-! ### 1. Values and lists -/
/-! ### 2. The world -/
theorem add_plain (g j : Nat) : (⟨g,0,none⟩ : Addr).add j = ⟨g,j,none⟩:=by unfold Addr.add; split <;> simp_all

/-! ### 3. A slice of whole numbers that is read; nil, empty and other slices alike -/
/-! ### 4. A row of the call's own -/
/-! ### 5. append(v, x): behind 'at_builtin'; the goal's world is 'W.alloc' of the variadic's box -/
section
variable {P : Program} {ops : Array Oper} {rest : List Oper} {o : Oper} {a : Act} {Q : Exit → Act → World → Prop}

end

/-! ### 6. make([]T, n), n an Int; a literal -/
section
variable {P : Program}
end
/-! ### 7. v[i] read and v[i] = x, v a row of the call's own: 'obtain ⟨g, cap, rfl, hgb, hgl⟩ := HO.out.form (by omega)' first -/
/-! ### 8. append(v, ys...): ys a slice that is read, nil let in; behind 'at_builtin' -/
section
variable {P : Program} {ops : Array Oper} {rest : List Oper} {o : Oper} {a : Act} {Q : Exit → Act → World → Prop}
end

/-! ### 9. []byte(s): a slice that is read (its row bears a conversion's mark: no row of one's own); cuts of a slice that is read -/
/-! ### 10. Rounds: more rounds give the same answer; what ends gives a number of rounds -/
/-! ### 11. Rows of elements of several cells (structs): read, made. R: what an element's cells say ('RepItem w': printed for each type) -/
section
variable {P : Program} {ops : Array Oper} {rest : List Oper} {o : Oper} {a : Act} {Q : Exit → Act → World → Prop}
end

/-! ### 12. A block of one's own that is a state: its cells, what a store leaves -/
/-! ### 13. Two states at once: what a call on the state at block g (its row before: 'row') has turned -/
/-! ### 10b. From some number of rounds on -/
/-! ### 14. append as_ one step of a region that draws its order: for 'go_region_law' (and a region walked by hand) -/
section
variable {P : Program} {ops : Array Oper} {o : Oper} {a : Act} {Q : Exit → Act → World → Prop} {K : Act → World → Prop}
end
/-! ### 15. A row's base may be lowered -/
/-! ### 16. Parts 3 to 9 for ANY element of one cell: 'enc' (Value.int k, Value.string, Value.bool), a default 'd' -/
section
variable {α : Type} {enc : α → Value} {d : α}
end
section
variable {α : Type} {P : Program} {ops : Array Oper} {rest : List Oper} {o : Oper} {a : Act} {Q : Exit → Act → World → Prop}
end

/-! ### 17. Rows of one element type held at once: no two share a block -/
/-! ### 18. A block behind a new one; behind a draw -/
/-! ### 19. Results that lie in memory beside others -/
section
variable {P : Program}
end
/-! ### 20. Rows of elements of any kind: R is what an element's cells say -/
section
variable {α : Type} {R R' : α → List Value → Prop} {e : TypeId} {size : Nat} {w w1 : World} {base : Nat} {v : Value} {ps : List α}
end
section
variable {P : Program} {ops : Array Oper} {rest : List Oper} {o : Oper} {a : Act} {Q : Exit → Act → World → Prop} {α : Type} {R : α → List Value → Prop}
end
section
variable {P : Program} {ops : Array Oper} {o : Oper} {a : Act} {Q : Exit → Act → World → Prop} {K : Act → World → Prop} {α : Type} {R : α → List Value → Prop}
end
/-! ### 21. Cuts of a slice that came in, lengths spelled as_ the lists' -/
section
variable {α : Type} {P : Program}
end

/-! ### 22. append([]byte, s...), s a string; behind 'at_builtin'. (No word on where the new row lies: two rows of bytes at once don't go by it.) -/
section
variable {P : Program} {ops : Array Oper} {rest : List Oper} {o : Oper} {a : Act} {Q : Exit → Act → World → Prop}
end
/-! ### 23. KINDS: what a value's cells say, read (K) and made (M), kind by kind; every mover proved once -/
namespace Kd
section
variable {α : Type} {d : Kd α} {e : Nat} {w w1 : World} {base : Nat} {ok ok' : Nat → Prop} {v : Value} {xs : List α}
end

/-! #### the kinds -/
/-! #### an element of a row that is read; an element appended -/
section
variable {P : Program} {ops : Array Oper} {rest : List Oper} {o : Oper} {a : Act} {Q : Exit → Act → World → Prop} {α : Type}
end
section
variable {P : Program} {ops : Array Oper} {o : Oper} {a : Act} {Q : Exit → Act → World → Prop} {Kc : Act → World → Prop} {α : Type}
end
end Kd
/-! ### 24. Kinds nested in themselves -/
namespace Kd
section
variable {α : Type} {F : Kd α → Kd α} {sz : Nat} {E : List Nat} {hs : ∀ n,(upto F sz E n).sz = sz} {hE : ∀ n q,q ∈ (upto F sz E n).E → q ∈ E}
end
end Kd
/-! ### 25. What is held while another row is written: 'ok' says that its rows are none of that row's block -/
namespace Kd
end Kd
/-! ### 26. Words for a printer that takes every slice by its kind -/
namespace Kd
section
variable {α β : Type} {d : Kd α} {d' : Kd β} {e e' : Nat} {w w1 W : World} {base b b' : Nat} {ok ok' okv oku : Nat → Prop} {v u : Value} {xs : List α} {ys : List β}
theorem R_form (h : d.R e w base ok v xs) (hp : 0 < xs.length) : ∃ g cap,v = .slice (some ⟨g,0,none⟩) xs.length cap ∧ base ≤ g ∧ g < w.heap.size ∧ ∃ cells,w.heap[g]? = some (.cells cells e (0,0)):=by
 obtain ⟨inner,ho⟩:=R_own h
 obtain ⟨g,cap,he,hb,hl⟩:=ho.form hp
 obtain ⟨cells,hc⟩:=own_typed ho g (by rw [he]; simp [Value.ownBlock])
 exact ⟨g,cap,he,hb,hl,cells,hc⟩
end
/-! #### scalars -/
section
variable {w W : World} {A : Option Addr} {n : Nat}
variable {α : Type} {enc : α → Value} {h1 : ∀ x,(enc x).oneCell' = true} {e base g cap : Nat} {ok : Nat → Prop} {xs : List α}
end

/-! #### events: a letter for what make and a literal leave -/
section
variable {P : Program} {ops : Array Oper} {rest : List Oper} {o : Oper} {a : Act} {Q : Exit → Act → World → Prop}
variable {α : Type}
end
end Kd
/-! ### 27. Cuts of a row of one's own: 'xs = xs[:n]' stays a row (R_take); 'xs = xs[k:]' is a row that begins inside its block (Kd.Q), append goes on it too -/
section
variable {P : Program}
theorem cut_to (t e : TypeId) (kh : IntKind) {i : TypeInfo} (ht : P.underlying t = some (.slice e)) (hi : P.info? e = some i) (A : Option Addr) (n c : Nat) (j : Int) (h0 : 0 ≤ j) (hm : j ≤ n) (hc : n ≤ c) :
  ∀ W : World,(Instr.slice t (.slice A n c) none (some (.int kh j)) none).run P W = .ok (.slice A j.toNat c) W:=by
 intro W
 have hel : P.elem t = e:=by simp [Program.elem,ht]
 have hu : P.underlying t = some (.slice (P.elem t)):=by rw [hel]; exact ht
 have ha : (A.map fun x => x.add 0) = A:=by cases A <;> simp [Addr.add]
 rw [run_slice_h W t A n c hu kh j h0 (by omega),hel]
 simp [sizeOf,typeInfo,hi,sliced,Result.andThen,ha]
theorem cut_from (t e : TypeId) (kl : IntKind) {i : TypeInfo} (ht : P.underlying t = some (.slice e)) (hi : P.info? e = some i) (size : Nat) (hsz : i.size = size) (A : Option Addr) (n c : Nat) (j : Int) (h0 : 0 ≤ j) (hm : j ≤ n) :
  ∀ W : World,(Instr.slice t (.slice A n c) (some (.int kl j)) none none).run P W = .ok (.slice (if c = j.toNat then A else A.map (·.add (j.toNat * size))) (n - j.toNat) (c - j.toNat)) W:=by
 intro W
 have hel : P.elem t = e:=by simp [Program.elem,ht]
 have hu : P.underlying t = some (.slice (P.elem t)):=by rw [hel]; exact ht
 rw [run_slice_l W t A n c hu kl j h0 hm,hel]
 simp [sizeOf,typeInfo,hi,hsz,sliced,Result.andThen]
end
section
variable {w w1 : World} {base n size : Nat} {e : TypeId} {v : Value} {xs : List Value}
/-- What a run of cells written leaves. -/
theorem setCells_far {g : Nat} : ∀ (vs : List Value) (o : Nat) {w : World} (k : Nat),k ≠ g → (w.setCells g o vs).heap[k]? = w.heap[k]?
 | [],_,_,_,_ => rfl
 | v :: r,o,w,k,hk => by
  rw [World.setCells,setCells_far r (o + 1) k hk]
  exact Below.heap_setCell w ⟨g,o,none⟩ v k hk
theorem setCells_same (g : Nat) : ∀ (vs : List Value) (o : Nat) (w : World),(w.setCells g o vs).os = w.os ∧ (w.setCells g o vs).tape = w.tape ∧ (w.setCells g o vs).output = w.output ∧ (w.setCells g o vs).heap.size = w.heap.size
 | [],_,_ => ⟨rfl,rfl,rfl,rfl⟩
 | v :: r,o,w => by
  obtain ⟨h1,h2,h3,h4⟩:=setCells_same g r (o + 1) (w.setCell ⟨g,o,none⟩ v)
  rw [World.setCells]
  exact ⟨h1,h2,h3,by rw [h4]; simp [World.setCell]⟩
end
section
variable {P : Program}
end
/-! ### 28. The kinds' words for cuts: R_take; Q (a row that may begin inside its block) with all of R's movers -/
namespace Kd
section
variable {α : Type} {d : Kd α} {e : Nat} {w w1 W : World} {base : Nat} {ok ok' : Nat → Prop} {v : Value} {xs : List α}
end
section
variable {P : Program} {ops : Array Oper} {rest : List Oper} {o : Oper} {a : Act} {Q' : Exit → Act → World → Prop} {Kc : Act → World → Prop} {α : Type}
end
end Kd
/-! ### 29. Movers that ask of another row no more than they need: for R and for Q -/
namespace Kd
section
variable {α : Type} {d : Kd α} {e e' : Nat} {w w1 W : World} {base : Nat} {ok : Nat → Prop} {u v : Value} {xs : List α}
end
end Kd
/-! ### 30. Elements written: x[i] = T{..}, x[i].f = v, swaps, in a row of elements of any kind -/
namespace Kd
section
variable {α : Type} {d : Kd α} {e base g n cap : Nat} {ok okp : Nat → Prop} {W : World} {xs : List α}
/-- Element i of a row of one's own: its cells. -/
theorem R_elem (h : d.R e W base ok (.slice (some ⟨g,0,none⟩) n cap) xs) (z : α) (i : Int) (h0 : 0 ≤ i) (h1 : i < n) :
  ∃ c,c.length = d.sz ∧ d.M W base (fun k => ok k ∧ k ≠ g) (xs.getD i.toNat z) c ∧ (∀ j u,c[j]? = some u → W.cell? ⟨g,i.toNat * d.sz + j,none⟩ = some u) ∧ ∀ j,W.frozen? ⟨g,i.toNat * d.sz + j,none⟩ = false:=by
 obtain ⟨hn,hnc,hC⟩:=R_reads' h
 obtain ⟨_,inner,ho,hr⟩:=h
 have hil : i.toNat < xs.length:=by omega
 have hseg : i.toNat * d.sz + d.sz ≤ inner.length:=by rw [hr.1,← Nat.succ_mul]; exact Nat.mul_le_mul_right _ hil
 have hM:=hr.2 i.toNat _ (List.getElem?_eq_getElem hil)
 refine ⟨(inner.drop (i.toNat * d.sz)).take d.sz,by rw [List.length_take,List.length_drop]; omega,?_,fun j u hu => ?_,fun j => ?_⟩
 ·rw [List.getD_eq_getElem?_getD,List.getElem?_eq_getElem hil]
  exact d.M_mono (fun k hk => ⟨hk.1,fun he => hk.2 (by rw [he]; simp [Value.ownBlock])⟩) hM
 ·rw [List.getElem?_take] at hu
  split at hu
  ·rw [List.getElem?_drop] at hu
   have:=ho.cells (g:=g) (by simp [Value.ownBlock]) _ u hu
   rwa [add_plain] at this
  ·cases hu
 ·obtain ⟨cells,hc⟩:=own_typed ho g (by simp [Value.ownBlock])
  exact blk_frozen hc _
/-- A run of cells of element i is written: element i is x' then. c: the element's cells before (R_elem). -/
theorem R_seg (h : d.R e W base ok (.slice (some ⟨g,0,none⟩) n cap) xs) (i : Int) (h0 : 0 ≤ i) (h1 : i < n) {c seg : List Value} {j : Nat} (hcl : c.length = d.sz) (hcc : ∀ j u,c[j]? = some u → W.cell? ⟨g,i.toNat * d.sz + j,none⟩ = some u)
  (hj : j + seg.length ≤ d.sz) {x' : α} (hM : d.M W base okp x' (c.take j ++ seg ++ c.drop (j + seg.length))) (hokp : ∀ k,okp k → ok k ∧ k ≠ g) :
  d.R e (W.setCells g (i.toNat * d.sz + j) seg) base ok (.slice (some ⟨g,0,none⟩) n cap) (xs.set i.toNat x') ∧ W.grownBy (W.setCells g (i.toNat * d.sz + j) seg) (some g):=by
 obtain ⟨hn,hnc,_⟩:=R_reads' h
 obtain ⟨hok,inner,ho,hr⟩:=h
 have hil : i.toNat < xs.length:=by omega
 have hseg : i.toNat * d.sz + d.sz ≤ inner.length:=by rw [hr.1,← Nat.succ_mul]; exact Nat.mul_le_mul_right _ hil
 have hin : inner.length = n * d.sz:=by rw [hr.1,hn]
 obtain ⟨ho1,ho2⟩:=ho
 rcases ho2 with ⟨hv,_⟩ | ⟨g',cap',cur,hv,hb,hh,hnc',hcm,hcs,ht⟩
 ·cases hv
 injection hv with ha _ hc
 injection ha with ha
 injection ha with hg
 subst hg; subst hc
 have hfit : i.toNat * d.sz + j + seg.length ≤ cur.size:=by
  have : n * d.sz ≤ cap * d.sz:=Nat.mul_le_mul_right _ hnc
  omega
 obtain ⟨cur',h3,h4,h5⟩:=setCells_row seg (i.toNat * d.sz + j) W cur hh hfit
 obtain ⟨s1,s2,s3,s4⟩:=setCells_same g seg (i.toNat * d.sz + j) W
 have hfar : ∀ k,k ≠ g → (W.setCells g (i.toNat * d.sz + j) seg).heap[k]? = W.heap[k]?:=fun k hk => setCells_far seg _ k hk
  -- the element's cells before are what was read
 have hcin : ∀ q,q < d.sz → c[q]? = inner[i.toNat * d.sz + q]?:=by
  intro q hq
  have hq' : q < c.length:=by omega
  have h6:=hcc q _ (List.getElem?_eq_getElem hq')
  rw [cell_of_row W g _ cur e (0,0) hh] at h6
  rw [List.getElem?_eq_getElem hq',← h6,← ht,List.getElem?_take,if_pos (by rw [← hn]; omega),Array.getElem?_toList]
 refine ⟨⟨hok,inner.take (i.toNat * d.sz + j) ++ seg ++ inner.drop (i.toNat * d.sz + j + seg.length),⟨?_,.inr ⟨g,cap,cur',by rw [List.length_set,hn],hb,h3,by rw [List.length_set,← hn]; exact hnc,hcm,by rw [h4,hcs],?_⟩⟩,?_⟩,
  ⟨s1,s2,s3,by rw [s4]; exact Nat.le_refl _,fun k _ hk => hfar k (fun he => hk (by rw [he]))⟩⟩
 ·rw [List.length_set]
  simp only [List.length_append,List.length_take,List.length_drop]
  rw [hr.1] at hseg ⊢
  omega
 ·rw [List.length_set,← hn]
  apply List.ext_getElem?
  intro q
  rw [List.getElem?_take,h5]
  rw [seg_get cur.toList seg (i.toNat * d.sz + j) (by rw [Array.length_toList]; omega) q,seg_get inner seg (i.toNat * d.sz + j) (by omega) q]
  have hcur : ∀ q,q < n * d.sz → cur.toList[q]? = inner[q]?:=by
   intro q hq
   rw [← ht,List.getElem?_take,if_pos (by rw [← hn]; exact hq)]
  by_cases hq : q < n * d.sz
  ·rw [if_pos hq,hcur q hq]
  ·rw [if_neg hq,if_neg (by omega),if_neg (by omega),List.getElem?_eq_none (by omega)]
 ·refine ⟨?_,fun m p hm => ?_⟩
  ·rw [List.length_set]
   simp only [List.length_append,List.length_take,List.length_drop]
   rw [hr.1] at hseg ⊢
   omega
  ·have hml : m < xs.length:=by
    have:=(List.getElem?_eq_some_iff.1 hm).1
    rwa [List.length_set] at this
   have hmfit : m * d.sz + d.sz ≤ inner.length:=by rw [hr.1,← Nat.succ_mul]; exact Nat.mul_le_mul_right _ hml
   have hgo : some g = (Value.slice (some ⟨g,0,none⟩) n cap).ownBlock:=by simp [Value.ownBlock]
   by_cases hmi : m = i.toNat
   ·subst hmi
    rw [List.getElem?_set_self (by omega)] at hm
    injection hm with hm
    subst hm
    have hcells : ((inner.take (i.toNat * d.sz + j) ++ seg ++ inner.drop (i.toNat * d.sz + j + seg.length)).drop (i.toNat * d.sz)).take d.sz = c.take j ++ seg ++ c.drop (j + seg.length):=by
     apply List.ext_getElem?
     intro q
     rw [List.getElem?_take,List.getElem?_drop,seg_get inner seg _ (by omega),seg_get c seg j (by omega) q]
     by_cases hq : q < d.sz
     ·rw [if_pos hq,hcin q hq]
      by_cases hq1 : q < j
      ·rw [if_pos (by omega),if_pos hq1]
      ·rw [if_neg (by omega),if_neg hq1]
       by_cases hq2 : q < j + seg.length
       ·rw [if_pos (by omega),if_pos hq2]
        congr 1
        omega
       ·rw [if_neg (by omega),if_neg hq2]
     ·rw [if_neg hq,if_neg (by omega),if_neg (by omega),List.getElem?_eq_none (by omega)]
    rw [hcells]
    refine d.M_mono (fun k hk => ?_) (d.M_move (w1:=W.setCells g (i.toNat * d.sz + j) seg) (fun k hk => hfar k (hokp k hk).2) hM)
    exact ⟨(hokp k hk).1,fun he => (hokp k hk).2 (by rw [← hgo] at he; injection he)⟩
   ·rw [List.getElem?_set_ne (by omega)] at hm
    have hold:=hr.2 m p hm
    have hcells : ((inner.take (i.toNat * d.sz + j) ++ seg ++ inner.drop (i.toNat * d.sz + j + seg.length)).drop (m * d.sz)).take d.sz = (inner.drop (m * d.sz)).take d.sz:=by
     apply List.ext_getElem?
     intro q
     rw [List.getElem?_take,List.getElem?_take,List.getElem?_drop,List.getElem?_drop,seg_get inner seg _ (by omega)]
     by_cases hq : q < d.sz
     ·rw [if_pos hq,if_pos hq]
      rcases Nat.lt_or_gt_of_ne hmi with hlt | hgt
      ·have : m * d.sz + d.sz ≤ i.toNat * d.sz:=by rw [← Nat.succ_mul]; exact Nat.mul_le_mul_right _ hlt
       rw [if_pos (by omega)]
      ·have : i.toNat * d.sz + d.sz ≤ m * d.sz:=by rw [← Nat.succ_mul]; exact Nat.mul_le_mul_right _ hgt
       rw [if_neg (by omega),if_neg (by omega)]
     ·rw [if_neg hq,if_neg hq]
    rw [hcells]
    refine d.M_move (fun k hk => hfar k (fun he => hk.2 (by rw [he]; exact hgo))) hold
end
end Kd
/-! ### 31. What came in, put into what is made: 'fixed d w0' (read in w0, whatever happens since), 'or_ a b', 'mix' (a slice that came in, or one that is made) -/
namespace Kd
section
variable {α : Type} {F : Kd α → Kd α} {sz : Nat} {E : List Nat} {hs : ∀ n,(upto F sz E n).sz = sz} {hE : ∀ n q,q ∈ (upto F sz E n).E → q ∈ E}
end
end Kd
/-! ### 32. A whole row appended, of elements of any kind; copy onto a row of scalars of one's own -/
namespace Kd
section
variable {P : Program} {ops : Array Oper} {rest : List Oper} {o : Oper} {a : Act} {Q : Exit → Act → World → Prop} {α : Type}
end
end Kd
/-! ### 33. A store into a row of one's own, as_ an event: no go_simp -/
namespace Kd
section
variable {P : Program} {ops : Array Oper} {rest : List Oper} {o : Oper} {a : Act} {Q : Exit → Act → World → Prop} {α : Type}
end
end Kd
/-! ### 34. Cuts that are only read, of any row -/
namespace Kd
section
variable {α : Type} {k : Kd α} {w : World} {A : Option Addr} {xs : List α} {m c : Nat}
end
end Kd
section
variable {P : Program}
end
/-! ### 35. string(b), b read (a cut too) -/
/-! ### 6. What the printer adds -/
namespace Kd
section
variable {α β : Type} {d : Kd α} {d' : Kd β} {e e' base base' n : Nat} {ok ok' : Nat → Prop} {w W w1 W1 : World} {v u : Value} {xs : List α} {ys : List β} {A : Option Addr} {c : Nat}
end
section
variable {α : Type} {enc : α → Value} {h1 : ∀ x,(enc x).oneCell' = true} {w W : World} {A : Option Addr} {n g : Nat} {xs : List α}
end
end Kd
namespace Kd
section
variable {α : Type} {d : Kd α} {e base g : Nat} {ok : Nat → Prop} {w w1 : World} {v : Value} {xs : List α} {o : Obj}
end
end Kd
section
variable {P : Program} {ops : Array Oper} {rest : List Oper} {o : Oper} {a : Act} {Q : Exit → Act → World → Prop}
end
namespace Kd
section
variable {α : Type} {enc : α → Value} {h1 : ∀ x,(enc x).oneCell' = true} {e base g n cap : Nat} {ok : Nat → Prop} {W : World} {xs : List α}
end
end Kd
section
variable {P : Program} {ops : Array Oper} {rest : List Oper} {o : Oper} {a : Act} {Q : Exit → Act → World → Prop}
end
namespace Kd
section
variable {α : Type} {enc : α → Value} {h1 : ∀ x,(enc x).oneCell' = true} {e base g n cap : Nat} {ok : Nat → Prop} {W : World} {xs : List α}
end
end Kd
section
variable {P : Program} {ops : Array Oper} {rest : List Oper} {o : Oper} {a : Act} {Q : Exit → Act → World → Prop} {W : World}
end
/-! ### 36. Events as_ one step of a region that draws (for one_, two_, three_) -/
section
variable {P : Program} {ops : Array Oper} {o : Oper} {a : Act} {Q : Exit → Act → World → Prop} {Kc : Act → World → Prop}
namespace Kd
variable {α : Type}
end Kd
end
/-! ### 37. Results of any shape -/
section
variable {P : Program} {tmps : Array Value} {w : World}
end
/-! ### 38. 'out = append(out[:k], out[k+1:]...)': an element taken out of a row of one's own, in place -/
namespace Kd
section
variable {P : Program} {α : Type}
end
section
variable {P : Program} {ops : Array Oper} {rest : List Oper} {o : Oper} {a : Act} {Q : Exit → Act → World → Prop} {Kc : Act → World → Prop} {α : Type}
end
end Kd

end Go.Proofs.YthhohbidjhcjeaaGreatDoorW.PrintWords
/-! ### 47. N: a row of the call's own whose elements share (what they lead to is only read) -/
namespace Go.Proofs.YthhohbidjhcjeaaGreatDoorW.PrintWords
open Go.RowKit
namespace Kd
section
variable {α : Type} {d : Kd α} {e base n cc g : Nat} {ok ok' okp S : Nat → Prop} {w w1 W W1 : World} {A : Option Addr} {u v v1 : Value} {xs : List α} {x : α} {c : List Value}
theorem N_form (h : N d e w base ok v xs) (hp : 0 < xs.length) : ∃ g cap,v = .slice (some ⟨g,0,none⟩) xs.length cap ∧ base ≤ g ∧ g < w.heap.size ∧ ∃ cells,w.heap[g]? = some (.cells cells e (0,0)):=by
 obtain ⟨_,rows,hl,hR,_⟩:=h
 rw [← hl] at hp ⊢
 exact R_form hR hp
/-- Element i: its cells, and what they lead to. -/
theorem N_elem {n cap : Nat} (h : N d e W base ok (.slice (some ⟨g,0,none⟩) n cap) xs) (z : α) (i : Int) (h0 : 0 ≤ i) (h1 : i < n) :
  ∃ c,c.length = d.sz ∧ FK d W (fun k => ok k ∧ k ≠ g) (xs.getD i.toNat z) c ∧ (∀ j u,c[j]? = some u → W.cell? ⟨g,i.toNat * d.sz + j,none⟩ = some u) ∧ ∀ j,W.frozen? ⟨g,i.toNat * d.sz + j,none⟩ = false:=by
 obtain ⟨_,rows,hl,hR,hf⟩:=h
 have hn:=(R_reads' hR).1
 obtain ⟨c,hcl,hM,hcc,hfr⟩:=R_elem hR [] i h0 h1
 have hil : i.toNat < rows.length:=by omega
 have hil' : i.toNat < xs.length:=by omega
 have hc : c = rows[i.toNat]:=by
  have h2:=hM.1
  rwa [List.getD_eq_getElem?_getD,List.getElem?_eq_getElem hil] at h2
 refine ⟨c,hcl,?_,hcc,hfr⟩
 rw [List.getD_eq_getElem?_getD,List.getElem?_eq_getElem hil']
 exact FK_mono (hf _ _ _ (List.getElem?_eq_getElem hil') (by rw [hc]; exact List.getElem?_eq_getElem hil)) (fun k hk => ⟨hk.1,fun he => hk.2 (by rw [he]; simp [Value.ownBlock])⟩)
end
end Kd
end Go.Proofs.YthhohbidjhcjeaaGreatDoorW.PrintWords
/-! ### 48. N's events: append, a whole row appended, zeros appended, literals, make, stores, cuts, an element taken out -/
namespace Go.Proofs.YthhohbidjhcjeaaGreatDoorW.PrintWords
open Go.RowKit
namespace Kd
section
variable {α : Type} {d : Kd α} {e base n cap g : Nat} {ok ok' okp : Nat → Prop} {w w1 W : World} {v v1 : Value} {xs ys : List α}
/-- Element i's cells were written: it is x' then. -/
theorem N_written {rows : List (List Value)} {i : Int} {x' : α} {c' : List Value} (h0 : ∀ k,(Value.slice (some ⟨g,0,none⟩) n cap).ownBlock = some k → ok k) (hl : rows.length = xs.length) (hf : ∀ (j : Nat) (x : α) (c : List Value),xs[j]? = some x → rows[j]? = some c → FK d W (fun k => ok k ∧ some k ≠ (Value.slice (some ⟨g,0,none⟩) n cap).ownBlock) x c)
  (hR : (raw d.sz).R e w1 base (fun _ => True) (.slice (some ⟨g,0,none⟩) n cap) (rows.set i.toNat c')) (hg : W.grownBy w1 (some g)) (hM : FK d W okp x' c') (hokp : ∀ k,okp k → ok k ∧ k ≠ g) : N d e w1 base ok (.slice (some ⟨g,0,none⟩) n cap) (xs.set i.toNat x'):=by
 have hgo : some g = (Value.slice (some ⟨g,0,none⟩) n cap).ownBlock:=by simp [Value.ownBlock]
 refine ⟨h0,rows.set i.toNat c',by rw [List.length_set,List.length_set,hl],raw_tight hR,fun j x c hx hc => ?_⟩
 have hjl : j < xs.length:=by have:=(List.getElem?_eq_some_iff.1 hx).1; rwa [List.length_set] at this
 by_cases hji : j = i.toNat
 ·subst hji
  rw [List.getElem?_set_self hjl] at hx
  rw [List.getElem?_set_self (by omega)] at hc
  injection hx with hx
  injection hc with hc
  rw [← hx,← hc]
  exact FK_mono (FK_step hM (fun k hk hlt => hg.block k hlt (fun he => (hokp k hk).2 (by injection he)))) (fun k hk => ⟨(hokp k hk).1,fun he => (hokp k hk).2 (by rw [← hgo] at he; injection he)⟩)
 ·rw [List.getElem?_set_ne (Ne.symm hji)] at hx hc
  exact FK_step (hf j x c hx hc) (fun k hk hlt => hg.block k hlt (by rw [hgo]; exact hk.2))
/-- Cells of element i are written, the world as_ it is then. -/
theorem N_seg (h : N d e W base ok (.slice (some ⟨g,0,none⟩) n cap) xs) (i : Int) (h0 : 0 ≤ i) (h1 : i < n) {c seg : List Value} {j : Nat} (hcl : c.length = d.sz) (hcc : ∀ j u,c[j]? = some u → W.cell? ⟨g,i.toNat * d.sz + j,none⟩ = some u)
  (hj : j + seg.length ≤ d.sz) {x' : α} (hM : FK d W okp x' (c.take j ++ seg ++ c.drop (j + seg.length))) (hokp : ∀ k,okp k → ok k ∧ k ≠ g) :
  N d e (W.setCells g (i.toNat * d.sz + j) seg) base ok (.slice (some ⟨g,0,none⟩) n cap) (xs.set i.toNat x') ∧ W.grownBy (W.setCells g (i.toNat * d.sz + j) seg) (some g):=by
 obtain ⟨hown,rows,hl,hR,hf⟩:=h
 obtain ⟨h2,h3⟩:=R_seg (raw_any hR) i h0 h1 (c:=c) (seg:=seg) (j:=j) (x':=c.take j ++ seg ++ c.drop (j + seg.length)) (okp:=fun _ => False) hcl hcc hj ⟨rfl,d.K_len (FK_now hM),d.K_one (FK_now hM)⟩ (fun _ hk => hk.elim)
 exact ⟨N_written hown hl hf h2 h3 hM hokp,h3⟩
end
section
variable {P : Program} {ops : Array Oper} {rest : List Oper} {o : Oper} {a : Act} {Q : Exit → Act → World → Prop} {Kc : Act → World → Prop} {α : Type}
end
end Kd
end Go.Proofs.YthhohbidjhcjeaaGreatDoorW.PrintWords
