/- How a value of a type opens to a leaf of the words: whole numbers, strings, slices, structs. -/
import Derived.Test.YthhohbidjhcjeaaDoorWMore
import Derived.Test.YthhohbidjhcjeaaDoorWArr
import Derived.Deep.Slices
import Derived.Deep.Fields
import Derived.ChangeSame
import Derived.ProofKit
import Derived.SizedLaws
import Derived.Test.YthhohbidjhcjeaaDoorProg
import Derived.Below
import Derived.Deep.Draws
import Derived.Deep.AppendLies
import Derived.Maps.AppendAt
import Derived.OwnWalk
import Derived.Laws.BytesArg
import Derived.Laws.MakeOwn
import Derived.Laws.OwnMore
import Derived.Deep.OwnRows
import Derived.Tactics
import Derived.Lib.ConvBytes
import Derived.Laws.Slices
import Derived.WalkKit
import Derived.KernelRfl
import Derived.RowKit3
import Derived.Deep.LoopGhost
import Derived.Deep.QuietTactic
import Derived.BigQuiet
import Derived.WideLaws
import Derived.Deep.DeepCutAuto
import Derived.Deep.CutBlock
import Derived.Deep.RegionHeld3
import Derived.Laws.Rows
import Derived.Lib.AppendStr
import Derived.ArgAppend
import Derived.Laws.IdiomCopy
import Derived.OrdersHeld
import Derived.Laws.BitsLemmas
import Derived.RowKit
import Derived.Test.YthhohbidjhcjeaaDoorWWords
import Derived.Test.YthhohbidjhcjeaaDoorWLast
import Derived.Test.YthhohbidjhcjeaaDoorWTab
import Derived.Test.YthhohbidjhcjeaaDoorWFour
import Derived.Test.YthhohbidjhcjeaaDoorWQPut
import Derived.Test.YthhohbidjhcjeaaDoorWApart
import Derived.Test.YthhohbidjhcjeaaDoorWZeros
import Derived.Test.YthhohbidjhcjeaaDoorWFoot
import Derived.Test.YthhohbidjhcjeaaDoorWKept
import Derived.Test.YthhohbidjhcjeaaDoorWShare
import Derived.Test.YthhohbidjhcjeaaDoorWN
import Derived.Test.YthhohbidjhcjeaaDoorWFootNe
import Derived.Test.YthhohbidjhcjeaaDoorWAt
import Derived.Test.YthhohbidjhcjeaaDoorWEqStruct
import Derived.Test.YthhohbidjhcjeaaDoorWRepsOne
import Derived.Test.YthhohbidjhcjeaaDoorWInv
import Derived.Test.YthhohbidjhcjeaaDoorWInvWords
import Derived.Test.YthhohbidjhcjeaaDoorWGuard
import Derived.Test.YthhohbidjhcjeaaDoorWNEv
namespace Go.Proofs.YthhohbidjhcjeaaDoor.Op
open Go.ChangeShapes Go.WideShapes Go.Deep Go.RowKit Go.Proofs.YthhohbidjhcjeaaDoorW.PrintWords Go.Proofs.YthhohbidjhcjeaaDoorW.PrintMore

/-- Whatever a type's cells read, they are a leaf's cells of a good value. -/
def Opens {α : Type} (P : Program) (t : TypeId) (d : Kd α) (good : α → Prop) : Prop :=
 ∀ (H : Type) (enc : TypeId × Value → H) (w : World) (base : Nat) (spare : Nat → Bool) (held : Bool) (fuel : Nat) (cs : List Value) (x : DataW H × List MemPlace),
  DataW.trod enc P w base spare held fuel t cs = some x → (∀ n ∈ x.1.weights P t,n ≤ reachBytes) → ∃ a,d.K w a cs ∧ good a
theorem opens_int {P : Program} {t : TypeId} {k : IntKind} (ht : P.underlying t = some (.int k)) : Opens P t (Kd.int k) (fun n => (Lit.int k n).wf = true):=by
 intro H enc w base spare held fuel cs x h hw
 obtain ⟨n,rfl,rfl,hn⟩:=DataW.trod_int ht h
 exact ⟨n,rfl,hn⟩
theorem opens_string {P : Program} {t : TypeId} (ht : P.underlying t = some .string) : Opens P t Kd.string (fun s => s.size ≤ 140737488351232):=by
 intro H enc w base spare held fuel cs x h hw
 obtain ⟨s,rfl,rfl,hn⟩:=DataW.trod_string ht h
 refine ⟨s,rfl,?_⟩
 have h2 : s.data.toList.length ≤ 140737488351232:=hw s.data.toList.length (by simp [DataW.weights])
 simpa using h2
theorem weightsAll_mem {H : Type} {P : Program} {e : TypeId} : ∀ {ds : List (DataW H)} {d : DataW H},d ∈ ds → ∀ n ∈ d.weights P e,n ∈ DataW.weightsAll P e ds
 | d0 :: ds,d,hd,n,hn => by
  rcases List.mem_cons.1 hd with rfl | hd
  ·simp only [DataW.weightsAll,List.mem_append]
   exact .inl hn
  ·simp only [DataW.weightsAll,List.mem_append]
   exact .inr (weightsAll_mem hd n hn)
 | [],_,hd,_,_ => by simp at hd
theorem opens_slice {α : Type} {P : Program} {t e : TypeId} {d : Kd α} {g : α → Prop} (b : Nat) (ht : P.underlying t = some (.slice e)) (he : Opens P e d g) (hc : P.cellsOf e = d.sz) (hb : P.bytesOf e = b) :
  Opens P t (Kd.slice e d) (fun xs => xs.length ≤ maxLen ∧ xs.length * b ≤ 140737488351232 ∧ ∀ x ∈ xs,g x):=by
 intro H enc w base spare held fuel cs x h hw
 rcases open_slice ht h with ⟨rfl,rfl⟩ | ⟨a,len,cap,m,n,D,Pl,rfl,_,hl,hm,hmm,rfl,hx⟩
 ·exact ⟨[],⟨none,0,rfl,Nat.le_refl _,Kd.C_nil d w⟩,Nat.zero_le _,by simp,by simp⟩
 ·have hlm : len ≤ m:=by rw [hmm]; split <;> omega
  have hwt : ((List.range len).map D).length * P.bytesOf e + ((List.range (m - len)).map fun j => D (len + j)).length * P.bytesOf e ≤ 140737488351232:=by
   have:=hw ((((List.range len).map D).length + ((List.range (m - len)).map fun j => D (len + j)).length) * P.bytesOf e) (by simp [DataW.weights,ht])
   rw [← Nat.add_mul]
   exact this
  have key : ∀ i,i < len → ∃ p : α,∃ cs',w.cells? base (a.add (i * P.cellsOf e)) (P.cellsOf e) = some cs' ∧ d.K w p cs' ∧ g p:=by
   intro i hi
   obtain ⟨cs',h1,h2⟩:=hx i (by omega)
   obtain ⟨p,hp,hg⟩:=he H enc w base spare held n cs' _ h2 (fun k hk => hw k (by
    simp only [DataW.weights,ht]
    refine List.mem_cons_of_mem _ (List.mem_append_left _ (weightsAll_mem (d:=D i) ?_ k hk))
    exact List.mem_map.2 ⟨i,List.mem_range.2 hi,rfl⟩))
   exact ⟨p,cs',h1,hp,hg⟩
  obtain ⟨f,hf⟩ : ∃ f : Nat → Option α,∀ i,i < len → ∃ p,f i = some p ∧ ∃ cs',w.cells? base (a.add (i * P.cellsOf e)) (P.cellsOf e) = some cs' ∧ d.K w p cs' ∧ g p:=by
   refine ⟨fun i => if h : i < len then some (key i h).choose else none,fun i hi => ⟨_,dif_pos hi,(key i hi).choose_spec⟩⟩
  have hlen : ((List.range len).filterMap f).length = len ∧ ∀ j p,((List.range len).filterMap f)[j]? = some p → j < len ∧ f j = some p:=by
   clear hwt hx hw h hl key hlm hmm
   induction len with
   | zero => simp
   | succ len ih =>
    obtain ⟨h1,h2⟩:=ih (fun i hi => hf i (by omega))
    obtain ⟨p,hp,_⟩:=hf len (by omega)
    rw [List.range_succ,List.filterMap_append]
    have e1 : List.filterMap f [len] = [p]:=by simp [hp]
    rw [e1]
    refine ⟨by simp [h1],fun j q hj => ?_⟩
    by_cases hjl : j < ((List.range len).filterMap f).length
    ·rw [List.getElem?_append_left hjl] at hj
     obtain ⟨h3,h4⟩:=h2 j q hj
     exact ⟨by omega,h4⟩
    ·rw [List.getElem?_append_right (by omega)] at hj
     have hj0 : j = len:=by
      have:=(List.getElem?_eq_some_iff.1 hj).1
      simp at this
      omega
     subst hj0
     rw [h1,Nat.sub_self] at hj
     simp only [List.getElem?_cons_zero,Option.some.injEq] at hj
     subst hj
     exact ⟨by omega,hp⟩
  obtain ⟨hlen,hget⟩:=hlen
  refine ⟨(List.range len).filterMap f,⟨some a,cap,by rw [hlen],by rw [hlen]; exact hl,?_⟩,?_,?_,?_⟩
  ·refine ⟨rfl,by rw [hlen]; have : maxLen = 9223372036854775807:=rfl; omega,fun _ => ⟨a,rfl,fun j p hj => ?_⟩⟩
   obtain ⟨hjl,hfj⟩:=hget j p hj
   obtain ⟨p',hp',cs',h1,h2,_⟩:=hf j hjl
   obtain rfl : p' = p:=Option.some.inj (hp'.symm.trans hfj)
   obtain ⟨_,hcl,hat⟩:=World.cells?_some h1
   refine ⟨cs',d.K_len h2,h2,fun i u hu => ?_⟩
   have hi : i < P.cellsOf e:=by
    have:=(List.getElem?_eq_some_iff.1 hu).1
    omega
   have h3:=hat i hi
   rw [hu,Go.Deep.add_add,hc] at h3
   exact h3
  ·rw [hlen]; exact Nat.le_trans hl hm
  ·rw [hlen,← hb]
   have : len * P.bytesOf e ≤ ((List.range len).map D).length * P.bytesOf e:=by simp
   omega
  ·intro p hp
   obtain ⟨j,hj⟩:=List.getElem?_of_mem hp
   obtain ⟨hjl,hfj⟩:=hget j p hj
   obtain ⟨p',hp',cs',h1,_,h2⟩:=hf j hjl
   obtain rfl : p' = p:=Option.some.inj (hp'.symm.trans hfj)
   exact h2

/-- The fields from one on. -/
def OpensAt {α : Type} (P : Program) (fs : List Field) (off : Nat) (d : Kd α) (good : α → Prop) : Prop :=
 ∀ (H : Type) (enc : TypeId × Value → H) (w : World) (base : Nat) (spare : Nat → Bool) (held : Bool) (n : Nat) (cs : List Value) (xs : List (DataW H × List MemPlace)),
  (∀ (i : Nat) (f : Field),fs[i]? = some f → DataW.trod enc P w base spare held n f.type ((cs.drop f.offset).take (P.cellsOf f.type)) = xs[i]?) → xs.length = fs.length →
  (∀ n ∈ DataW.weightsEach P (fs.map (·.type)) (xs.map (·.1)),n ≤ reachBytes) → cs.length = off + d.sz → ∃ a,d.K w a (cs.drop off) ∧ good a
theorem opensAt_one {α : Type} {P : Program} {f : Field} {off : Nat} {d : Kd α} {g : α → Prop} (he : Opens P f.type d g) (ho : f.offset = off) (hc : P.cellsOf f.type = d.sz) : OpensAt P [f] off d g:=by
 intro H enc w base spare held n cs xs hx hl hw hcs
 obtain ⟨x,rfl⟩ : ∃ x,xs = [x]:=by
  match xs,hl with
  | [x],_ => exact ⟨x,rfl⟩
 have h0:=hx 0 f rfl
 rw [ho,hc,List.take_of_length_le (by simp; omega)] at h0
 exact he H enc w base spare held n _ x h0 (fun k hk => hw k (by simp [DataW.weightsEach,hk]))
theorem opensAt_cons {α β : Type} {P : Program} {f : Field} {fs : List Field} {off : Nat} {d : Kd α} {d' : Kd β} {g : α → Prop} {g' : β → Prop} (he : Opens P f.type d g) (ho : f.offset = off) (hc : P.cellsOf f.type = d.sz)
  (hr : OpensAt P fs (off + d.sz) d' g') : OpensAt P (f :: fs) off (Kd.pair d d') (fun x => g x.1 ∧ g' x.2):=by
 intro H enc w base spare held n cs xs hx hl hw hcs
 obtain ⟨x,xs,rfl⟩ : ∃ x xs',xs = x :: xs':=by
  match xs,hl with
  | x :: xs,_ => exact ⟨x,xs,rfl⟩
 have h0:=hx 0 f rfl
 rw [ho,hc] at h0
 have hsz : (Kd.pair d d').sz = d.sz + d'.sz:=rfl
 obtain ⟨a,ha,hga⟩:=he H enc w base spare held n _ x h0 (fun k hk => hw k (by simp [DataW.weightsEach,hk]))
 obtain ⟨b,hb,hgb⟩:=hr H enc w base spare held n cs xs (fun i q hq => hx (i + 1) q hq) (by simpa using hl) (fun k hk => hw k (by
  simp only [List.map_cons,DataW.weightsEach,List.mem_append]
  exact .inr hk)) (by omega)
 refine ⟨(a,b),⟨(cs.drop off).take d.sz,cs.drop (off + d.sz),?_,ha,hb⟩,hga,hgb⟩
 rw [← List.drop_drop,List.take_append_drop]
theorem opens_struct {α : Type} {P : Program} {t : TypeId} {fs : Array Field} {d : Kd α} {g : α → Prop} (ht : P.underlying t = some (.struct fs)) (hc : P.cellsOf t = d.sz) (hr : OpensAt P fs.toList 0 d g) : Opens P t d g:=by
 intro H enc w base spare held fuel cs x h hw
 obtain ⟨xs,n,rfl,rfl,hl,hxl,hx⟩:=DataW.trod_struct ht h
 have:=hr H enc w base spare held n cs xs (fun i f hf => hx i f (by simpa using hf)) (by simpa using hxl) (fun k hk => hw k (by simpa [DataW.weights,ht] using hk)) (by omega)
 simpa using this
theorem opens_iso {α β : Type} {P : Program} {t : TypeId} {d : Kd α} {g : α → Prop} (f : β → α) (inv : α → β) (hi : ∀ a,f (inv a) = a) (h : Opens P t d g) : Opens P t (Kd.iso d f) (fun b => g (f b)):=by
 intro H enc w base spare held fuel cs x h' hw
 obtain ⟨a,ha,hg⟩:=h H enc w base spare held fuel cs x h' hw
 exact ⟨inv a,by show d.K w (f (inv a)) cs; rw [hi]; exact ha,by show g (f (inv a)); rw [hi]; exact hg⟩
theorem opens_imp {α : Type} {P : Program} {t : TypeId} {d : Kd α} {g g' : α → Prop} (h : Opens P t d g) (hi : ∀ a,g a → g' a) : Opens P t d g':=by
 intro H enc w base spare held fuel cs x h' hw
 obtain ⟨a,ha,hg⟩:=h H enc w base spare held fuel cs x h' hw
 exact ⟨a,ha,hi a hg⟩
/-- An argument's value, opened. -/
theorem opened {α : Type} {P : Program} {t : TypeId} {d : Kd α} {g : α → Prop} (h : Opens P t d g) {H : Type} {enc : TypeId × Value → H} {w : World} {base : Nat} {spare : Nat → Bool} {held : Bool} {v : Value} {x : DataW H} {ps : List MemPlace}
  {ts : List TypeId} {ds : List (DataW H)} {j : Nat} (hT : DataW.Trod enc P w base spare held t v x ps) (hs : (DataW.weightsEach P ts ds).all (· ≤ reachBytes) = true) (ht : ts[j]? = some t) (hd : ds[j]? = some x) : ∃ a,d.K w a v.cells.toList ∧ g a:=by
 obtain ⟨fuel,hf⟩:=hT
 exact h H enc w base spare held fuel _ (x,ps) hf (fun n hn => by simpa using List.all_eq_true.1 hs _ (DataW.weights_mem_each ht hd n hn))
end Go.Proofs.YthhohbidjhcjeaaDoor.Op
namespace Go.Proofs.YthhohbidjhcjeaaDoor.Q
open Go.RowKit Go.Proofs.YthhohbidjhcjeaaDoorW.PrintWords Go.Proofs.YthhohbidjhcjeaaDoorW.PrintLast Go.Proofs.YthhohbidjhcjeaaDoorW.PrintMore
attribute [local go_sem] max2_int min2_int max_two min_two max_three min_three max_four min_four   -- for this text's walks alone
set_option linter.unusedVariables false
set_option linter.unusedSimpArgs false



def errW : Option Int → Value
 | none => .nilIface
 | some c => .iface 0 (.int .i64 c)
theorem errW_none : errW none = .nilIface:=rfl
theorem errW_some (c : Int) : errW (some c) = .iface 0 (.int .i64 c):=rfl

-- the values' own types
/-! #### struct type 24 -/
structure S24 where
 f0 : Int
 f1 : ByteArray
 f2 : ByteArray
 f3 : ByteArray
 f4 : Int
 f5 : (List ByteArray)
 f6 : (List ByteArray)
def z24 : S24:=⟨(0 : Int),(⟨#[]⟩ : ByteArray),(⟨#[]⟩ : ByteArray),(⟨#[]⟩ : ByteArray),(0 : Int),([] : List ByteArray),([] : List ByteArray)⟩
def k24 : Kd S24:=Kd.iso (Kd.pair (Kd.int .i64) (Kd.pair Kd.string (Kd.pair Kd.string (Kd.pair Kd.string (Kd.pair (Kd.int .i64) (Kd.pair (Kd.slice 9 Kd.string) (Kd.slice 9 Kd.string))))))) (fun x : S24 => (x.f0,x.f1,x.f2,x.f3,x.f4,x.f5,x.f6))
theorem k24_heap : Kd.Heap k24:=Kd.heap_iso _ (Kd.heap_pair (Kd.heap_int .i64) (Kd.heap_pair Kd.heap_string (Kd.heap_pair Kd.heap_string (Kd.heap_pair Kd.heap_string (Kd.heap_pair (Kd.heap_int .i64) (Kd.heap_pair (Kd.heap_slice 9 Kd.heap_string) (Kd.heap_slice 9 Kd.heap_string)))))))
theorem k24_open {w : World} {x : S24} {cs : List Value} (h : k24.K w x cs) : ∃ A5 c5 A6 c6,cs = [.int .i64 x.f0,.string x.f1,.string x.f2,.string x.f3,.int .i64 x.f4,.slice A5 x.f5.length c5,.slice A6 x.f6.length c6] ∧ x.f5.length ≤ c5 ∧ Kd.string.C w A5 x.f5.length x.f5 ∧ x.f6.length ≤ c6 ∧ Kd.string.C w A6 x.f6.length x.f6:=by
 obtain ⟨_,_,rfl,rfl,⟨_,_,rfl,rfl,⟨_,_,rfl,rfl,⟨_,_,rfl,rfl,⟨_,_,rfl,rfl,⟨_,_,rfl,⟨A5,c5,rfl,l5,g5⟩,⟨A6,c6,rfl,l6,g6⟩⟩⟩⟩⟩⟩⟩:=h
 exact ⟨A5,c5,A6,c6,rfl,l5,g5,l6,g6⟩
theorem k24_mk (w : World) (x : S24) {A5 : Option Addr} {c5 : Nat} (l5 : x.f5.length ≤ c5) (g5 : Kd.string.C w A5 x.f5.length x.f5) {A6 : Option Addr} {c6 : Nat} (l6 : x.f6.length ≤ c6) (g6 : Kd.string.C w A6 x.f6.length x.f6) : k24.K w x [.int .i64 x.f0,.string x.f1,.string x.f2,.string x.f3,.int .i64 x.f4,.slice A5 x.f5.length c5,.slice A6 x.f6.length c6]:=⟨[.int .i64 x.f0],[.string x.f1,.string x.f2,.string x.f3,.int .i64 x.f4,.slice A5 x.f5.length c5,.slice A6 x.f6.length c6],rfl,rfl,⟨[.string x.f1],[.string x.f2,.string x.f3,.int .i64 x.f4,.slice A5 x.f5.length c5,.slice A6 x.f6.length c6],rfl,rfl,⟨[.string x.f2],[.string x.f3,.int .i64 x.f4,.slice A5 x.f5.length c5,.slice A6 x.f6.length c6],rfl,rfl,⟨[.string x.f3],[.int .i64 x.f4,.slice A5 x.f5.length c5,.slice A6 x.f6.length c6],rfl,rfl,⟨[.int .i64 x.f4],[.slice A5 x.f5.length c5,.slice A6 x.f6.length c6],rfl,rfl,⟨[.slice A5 x.f5.length c5],[.slice A6 x.f6.length c6],rfl,⟨A5,c5,rfl,l5,g5⟩,⟨A6,c6,rfl,l6,g6⟩⟩⟩⟩⟩⟩⟩
theorem k24_openF {W : World} {ok : Nat → Prop} {x : S24} {cs : List Value} (h : Kd.FK k24 W ok x cs) : ∃ A5 c5 A6 c6,cs = [.int .i64 x.f0,.string x.f1,.string x.f2,.string x.f3,.int .i64 x.f4,.slice A5 x.f5.length c5,.slice A6 x.f6.length c6] ∧ x.f5.length ≤ c5 ∧ Kd.F Kd.string W ok A5 x.f5.length x.f5 ∧ x.f6.length ≤ c6 ∧ Kd.F Kd.string W ok A6 x.f6.length x.f6:=by
 obtain ⟨A5,c5,A6,c6,rfl,l5,_,l6,_⟩:=k24_open (Kd.FK_now h)
 exact ⟨A5,c5,A6,c6,rfl,l5,(fun W' hW => by obtain ⟨A5_,c5_,A6_,c6_,he,l5_,g5_,l6_,g6_⟩:=k24_open (h W' hW); injection (Option.some.inj (show some (Value.slice A5 x.f5.length c5) = some (Value.slice A5_ x.f5.length c5_) from congrArg (fun l => l[5]?) he)) with ha_ _ _; rw [ha_]; exact g5_),l6,(fun W' hW => by obtain ⟨A5_,c5_,A6_,c6_,he,l5_,g5_,l6_,g6_⟩:=k24_open (h W' hW); injection (Option.some.inj (show some (Value.slice A6 x.f6.length c6) = some (Value.slice A6_ x.f6.length c6_) from congrArg (fun l => l[6]?) he)) with ha_ _ _; rw [ha_]; exact g6_)⟩
def rd_T24 (xs : List S24) (i : Int) : S24:=xs.getD i.toNat z24
theorem at_T24 {w : World} {A : Option Addr} {n : Nat} {xs : List S24} (h : Kd.C k24 w A n xs) (i : Int) (h0 : 0 ≤ i) (h1 : i < n) : ∃ ad A5 c5 A6 c6,A = some ad ∧ w.cell? (ad.add (i.toNat * 7)) = some (.int .i64 (rd_T24 xs i).f0) ∧ w.cell? ⟨(ad.add (i.toNat * 7)).block,(ad.add (i.toNat * 7)).off + 1,none⟩ = some (.string (rd_T24 xs i).f1) ∧ w.cell? ⟨(ad.add (i.toNat * 7)).block,(ad.add (i.toNat * 7)).off + 2,none⟩ = some (.string (rd_T24 xs i).f2) ∧ w.cell? ⟨(ad.add (i.toNat * 7)).block,(ad.add (i.toNat * 7)).off + 3,none⟩ = some (.string (rd_T24 xs i).f3) ∧ w.cell? ⟨(ad.add (i.toNat * 7)).block,(ad.add (i.toNat * 7)).off + 4,none⟩ = some (.int .i64 (rd_T24 xs i).f4) ∧ w.cell? ⟨(ad.add (i.toNat * 7)).block,(ad.add (i.toNat * 7)).off + 5,none⟩ = some (.slice A5 (rd_T24 xs i).f5.length c5) ∧ w.cell? ⟨(ad.add (i.toNat * 7)).block,(ad.add (i.toNat * 7)).off + 6,none⟩ = some (.slice A6 (rd_T24 xs i).f6.length c6) ∧ (rd_T24 xs i).f5.length ≤ c5 ∧ Kd.string.C w A5 (rd_T24 xs i).f5.length (rd_T24 xs i).f5 ∧ (rd_T24 xs i).f6.length ≤ c6 ∧ Kd.string.C w A6 (rd_T24 xs i).f6.length (rd_T24 xs i).f6:=by
 obtain ⟨ad,c,e,_,hK,hc0⟩:=Kd.C_get h z24 i h0 h1
 have hc : ∀ j u,c[j]? = some u → w.cell? (ad.add (i.toNat * 7 + j)) = some u:=hc0
 obtain ⟨A5,c5,A6,c6,rfl,l5,g5,l6,g6⟩:=k24_open hK
 exact ⟨ad,A5,c5,A6,c6,e,hc 0 _ rfl,by rw [← add_field _ _ 1 (by omega)]; exact hc 1 _ rfl,by rw [← add_field _ _ 2 (by omega)]; exact hc 2 _ rfl,by rw [← add_field _ _ 3 (by omega)]; exact hc 3 _ rfl,by rw [← add_field _ _ 4 (by omega)]; exact hc 4 _ rfl,by rw [← add_field _ _ 5 (by omega)]; exact hc 5 _ rfl,by rw [← add_field _ _ 6 (by omega)]; exact hc 6 _ rfl,l5,g5,l6,g6⟩

end Go.Proofs.YthhohbidjhcjeaaDoor.Q
namespace Go.Proofs.YthhohbidjhcjeaaDoor.Q
open Go.RowKit Go.Proofs.YthhohbidjhcjeaaDoorW.PrintWords Go.Proofs.YthhohbidjhcjeaaDoorW.PrintLast Go.Proofs.YthhohbidjhcjeaaDoorW.PrintMore
attribute [local go_sem] max2_int min2_int max_two min_two max_three min_three max_four min_four   -- for this text's walks alone
set_option linter.unusedVariables false
set_option linter.unusedSimpArgs false

-- NOT PRINTED: function 45 (invert_opposites)

-- NOT PRINTED: function 51 (api_Prim)

/-! ### counterpanelaw08_Great: function 16 -/
mutual
def counterpanelaw08_Great.j1 : Nat → Int → Int → ByteArray → ByteArray → ByteArray → Int → List ByteArray → List ByteArray → Option (Bool)
 | 0,_,_,_,_,_,_,_,_ => none
 | k + 1,x3,x102000,x102001,x102002,x102003,x102004,x102005,x102006 => counterpanelaw08_Great.l1 k x3 0 x102000 x102001 x102002 x102003 x102004 x102005 x102006
def counterpanelaw08_Great.l1 : Nat → Int → Int → Int → ByteArray → ByteArray → ByteArray → Int → List ByteArray → List ByteArray → Option (Bool)
 | 0,_,_,_,_,_,_,_,_,_ => none
 | k + 1,x3,x5,x102000,x102001,x102002,x102003,x102004,x102005,x102006 => if x5 < (x102006.length : Int) then (if x3 < 4000 then (if 0 ≤ x5 then (counterpanelaw08_Great.l1 k (wrap64 (x3 + (mn ((rdOf ByteArray.empty x102006 x5).size : Int) 4000))) (wrap64 (x5 + 1)) x102000 x102001 x102002 x102003 x102004 x102005 x102006) else (none)) else (some (decide (x3 ≥ 4000)))) else (some (decide (x3 ≥ 4000)))
def counterpanelaw08_Great.l0 : Nat → Int → Int → Int → ByteArray → ByteArray → ByteArray → Int → List ByteArray → List ByteArray → Option (Bool)
 | 0,_,_,_,_,_,_,_,_,_ => none
 | k + 1,x3,x4,x102000,x102001,x102002,x102003,x102004,x102005,x102006 => if x4 < (x102005.length : Int) then (if x3 < 4000 then (if 0 ≤ x4 then (counterpanelaw08_Great.l0 k (wrap64 (x3 + (mn ((rdOf ByteArray.empty x102005 x4).size : Int) 4000))) (wrap64 (x4 + 1)) x102000 x102001 x102002 x102003 x102004 x102005 x102006) else (none)) else (counterpanelaw08_Great.j1 k x3 x102000 x102001 x102002 x102003 x102004 x102005 x102006)) else (counterpanelaw08_Great.j1 k x3 x102000 x102001 x102002 x102003 x102004 x102005 x102006)
end
def counterpanelaw08_Great.f (k : Nat) (a0_0 : Int) (a0_1 : ByteArray) (a0_2 : ByteArray) (a0_3 : ByteArray) (a0_4 : Int) (l0_5 : List ByteArray) (l0_6 : List ByteArray) : Option (Bool):=counterpanelaw08_Great.l0 k (wrap64 ((wrap64 ((((mn (a0_1.size : Int) 4000) + (mn (a0_2.size : Int) 4000)) + (mn (a0_3.size : Int) 4000)) + (l0_5.length : Int))) + (l0_6.length : Int))) 0 a0_0 a0_1 a0_2 a0_3 a0_4 l0_5 l0_6
theorem counterpanelaw08_Great.mono_l : ∀ k,(∀ y0 y1 y2 y3 y4 y5 y6 y7,LeO (counterpanelaw08_Great.j1 k y0 y1 y2 y3 y4 y5 y6 y7) (counterpanelaw08_Great.j1 (k + 1) y0 y1 y2 y3 y4 y5 y6 y7)) ∧ (∀ y0 y1 y2 y3 y4 y5 y6 y7 y8,LeO (counterpanelaw08_Great.l1 k y0 y1 y2 y3 y4 y5 y6 y7 y8) (counterpanelaw08_Great.l1 (k + 1) y0 y1 y2 y3 y4 y5 y6 y7 y8)) ∧ (∀ y0 y1 y2 y3 y4 y5 y6 y7 y8,LeO (counterpanelaw08_Great.l0 k y0 y1 y2 y3 y4 y5 y6 y7 y8) (counterpanelaw08_Great.l0 (k + 1) y0 y1 y2 y3 y4 y5 y6 y7 y8))
 | 0 => ⟨fun _ _ _ _ _ _ _ _ r h => by simp [counterpanelaw08_Great.j1] at h,fun _ _ _ _ _ _ _ _ _ r h => by simp [counterpanelaw08_Great.l1] at h,fun _ _ _ _ _ _ _ _ _ r h => by simp [counterpanelaw08_Great.l0] at h⟩
 | k + 1 => by
  obtain ⟨ih0,ih1,ih2⟩:=counterpanelaw08_Great.mono_l k
  refine ⟨?_,?_,?_⟩
  ·intro y0 y1 y2 y3 y4 y5 y6 y7
   unfold counterpanelaw08_Great.j1
   repeat' first
   | (with_reducible exact ih0 _ _ _ _ _ _ _ _)
   | (with_reducible exact ih1 _ _ _ _ _ _ _ _ _)
   | (with_reducible exact ih2 _ _ _ _ _ _ _ _ _)
   | (with_reducible exact LeO.refl _)
   | (with_reducible exact LeO.none _)
   | (with_reducible refine LeO.ite ?_ ?_)
   | (with_reducible refine LeO.bind ?_ (fun _ => ?_))
   | exact ih0 _ _ _ _ _ _ _ _
   | exact ih1 _ _ _ _ _ _ _ _ _
   | exact ih2 _ _ _ _ _ _ _ _ _
   | exact LeO.none _
   | refine LeO.ite ?_ ?_
   | refine LeO.bind ?_ (fun _ => ?_)
  ·intro y0 y1 y2 y3 y4 y5 y6 y7 y8
   unfold counterpanelaw08_Great.l1
   repeat' first
   | (with_reducible exact ih0 _ _ _ _ _ _ _ _)
   | (with_reducible exact ih1 _ _ _ _ _ _ _ _ _)
   | (with_reducible exact ih2 _ _ _ _ _ _ _ _ _)
   | (with_reducible exact LeO.refl _)
   | (with_reducible exact LeO.none _)
   | (with_reducible refine LeO.ite ?_ ?_)
   | (with_reducible refine LeO.bind ?_ (fun _ => ?_))
   | exact ih0 _ _ _ _ _ _ _ _
   | exact ih1 _ _ _ _ _ _ _ _ _
   | exact ih2 _ _ _ _ _ _ _ _ _
   | exact LeO.none _
   | refine LeO.ite ?_ ?_
   | refine LeO.bind ?_ (fun _ => ?_)
  ·intro y0 y1 y2 y3 y4 y5 y6 y7 y8
   unfold counterpanelaw08_Great.l0
   repeat' first
   | (with_reducible exact ih0 _ _ _ _ _ _ _ _)
   | (with_reducible exact ih1 _ _ _ _ _ _ _ _ _)
   | (with_reducible exact ih2 _ _ _ _ _ _ _ _ _)
   | (with_reducible exact LeO.refl _)
   | (with_reducible exact LeO.none _)
   | (with_reducible refine LeO.ite ?_ ?_)
   | (with_reducible refine LeO.bind ?_ (fun _ => ?_))
   | exact ih0 _ _ _ _ _ _ _ _
   | exact ih1 _ _ _ _ _ _ _ _ _
   | exact ih2 _ _ _ _ _ _ _ _ _
   | exact LeO.none _
   | refine LeO.ite ?_ ?_
   | refine LeO.bind ?_ (fun _ => ?_)
theorem counterpanelaw08_Great.mono : ∀ a0 a1 a2 a3 a4 a5 a6 k,LeO (counterpanelaw08_Great.f k a0 a1 a2 a3 a4 a5 a6) (counterpanelaw08_Great.f (k + 1) a0 a1 a2 a3 a4 a5 a6):=by
 intro a0 a1 a2 a3 a4 a5 a6 k
 obtain ⟨ih0,ih1,ih2⟩:=counterpanelaw08_Great.mono_l k
 unfold counterpanelaw08_Great.f
 repeat' first
   | (with_reducible exact ih0 _ _ _ _ _ _ _ _)
   | (with_reducible exact ih1 _ _ _ _ _ _ _ _ _)
   | (with_reducible exact ih2 _ _ _ _ _ _ _ _ _)
   | (with_reducible exact LeO.refl _)
   | (with_reducible exact LeO.none _)
   | (with_reducible refine LeO.ite ?_ ?_)
   | (with_reducible refine LeO.bind ?_ (fun _ => ?_))
   | exact ih0 _ _ _ _ _ _ _ _
   | exact ih1 _ _ _ _ _ _ _ _ _
   | exact ih2 _ _ _ _ _ _ _ _ _
   | exact LeO.none _
   | refine LeO.ite ?_ ?_
   | refine LeO.bind ?_ (fun _ => ?_)
set_option maxHeartbeats 8000000 in
set_option maxRecDepth 100000 in
theorem counterpanelaw08_Great.calls (k : Nat) (a0_0 : Int) (a0_1 : ByteArray) (a0_2 : ByteArray) (a0_3 : ByteArray) (a0_4 : Int) (A0_5 : Option Addr) (c0_5 : Nat) (l0_5 : List ByteArray) (A0_6 : Option Addr) (c0_6 : Nat) (l0_6 : List ByteArray) (r : Bool) (w : World) (hr0_5 : Kd.C Kd.string w A0_5 l0_5.length l0_5) (hc0_5 : l0_5.length ≤ c0_5) (hr0_6 : Kd.C Kd.string w A0_6 l0_6.length l0_6) (hc0_6 : l0_6.length ≤ c0_6) (h : counterpanelaw08_Great.f k a0_0 a0_1 a0_2 a0_3 a0_4 l0_5 l0_6 = some r) :
  Calls Tryd.prog 16 #[.agg #[.int .i64 a0_0,.string a0_1,.string a0_2,.string a0_3,.int .i64 a0_4,.slice A0_5 l0_5.length c0_5,.slice A0_6 l0_6.length c0_6]] w fun e w' => e = .returned (.bool r) ∧ Below w.heap.size w w':=by
 have hu24:=Tryd.underlying24
 have HR0_5:=Aside0.mk hr0_5
 have HC0_5:=Aside0.mk hc0_5
 clear hr0_5 hc0_5
 have HR0_6:=Aside0.mk hr0_6
 have HC0_6:=Aside0.mk hc0_6
 clear hr0_6 hc0_6
 have HB:=Aside0.mk (Below.refl w.heap.size w)
 have H : (counterpanelaw08_Great.l0 k (wrap64 ((wrap64 ((((mn (a0_1.size : Int) 4000) + (mn (a0_2.size : Int) 4000)) + (mn (a0_3.size : Int) 4000)) + (l0_5.length : Int))) + (l0_6.length : Int))) 0 a0_0 a0_1 a0_2 a0_3 a0_4 l0_5 l0_6) = some r:=h
 clear h
 obtain ⟨ji2,hji2⟩ : ∃ j_ : Int,(mn (a0_1.size : Int) 4000) = j_:=⟨_,rfl⟩
 replace H : (counterpanelaw08_Great.l0 k (wrap64 ((wrap64 ((((ji2) + (mn (a0_2.size : Int) 4000)) + (mn (a0_3.size : Int) 4000)) + (l0_5.length : Int))) + (l0_6.length : Int))) 0 a0_0 a0_1 a0_2 a0_3 a0_4 l0_5 l0_6) = some r:=by first | (rw [hji2] at H; exact H) | (simp only [hji2] at H ⊢; exact H)
 (try (have hji2h : ji2 ≤ 4000:=by (rw [← hji2]; unfold mn; (repeat' split) <;> omega)))
 (try (have hji2g : ji2 ≤ 64:=by omega))
 (try (have hji2l : 0 ≤ ji2:=by (rw [← hji2]; unfold mn; (repeat' split) <;> omega)))
 (try (have hji2m : 0 ≤ ji2:=by omega))
 have hji2_ : (if 4000 < (a0_1.size : Int) then 4000 else (a0_1.size : Int)) = ji2:=hji2
 obtain ⟨ji3,hji3⟩ : ∃ j_ : Int,(mn (a0_2.size : Int) 4000) = j_:=⟨_,rfl⟩
 replace H : (counterpanelaw08_Great.l0 k (wrap64 ((wrap64 ((((ji2) + (ji3)) + (mn (a0_3.size : Int) 4000)) + (l0_5.length : Int))) + (l0_6.length : Int))) 0 a0_0 a0_1 a0_2 a0_3 a0_4 l0_5 l0_6) = some r:=by first | (rw [hji3] at H; exact H) | (simp only [hji3] at H ⊢; exact H)
 (try (have hji3h : ji3 ≤ 4000:=by (rw [← hji3]; unfold mn; (repeat' split) <;> omega)))
 (try (have hji3g : ji3 ≤ 64:=by omega))
 (try (have hji3l : 0 ≤ ji3:=by (rw [← hji3]; unfold mn; (repeat' split) <;> omega)))
 (try (have hji3m : 0 ≤ ji3:=by omega))
 have hji3_ : (if 4000 < (a0_2.size : Int) then 4000 else (a0_2.size : Int)) = ji3:=hji3
 obtain ⟨ji4,hji4⟩ : ∃ j_ : Int,(mn (a0_3.size : Int) 4000) = j_:=⟨_,rfl⟩
 replace H : (counterpanelaw08_Great.l0 k (wrap64 ((wrap64 ((((ji2) + (ji3)) + (ji4)) + (l0_5.length : Int))) + (l0_6.length : Int))) 0 a0_0 a0_1 a0_2 a0_3 a0_4 l0_5 l0_6) = some r:=by first | (rw [hji4] at H; exact H) | (simp only [hji4] at H ⊢; exact H)
 (try (have hji4h : ji4 ≤ 4000:=by (rw [← hji4]; unfold mn; (repeat' split) <;> omega)))
 (try (have hji4g : ji4 ≤ 64:=by omega))
 (try (have hji4l : 0 ≤ ji4:=by (rw [← hji4]; unfold mn; (repeat' split) <;> omega)))
 (try (have hji4m : 0 ≤ ji4:=by omega))
 have hji4_ : (if 4000 < (a0_3.size : Int) then 4000 else (a0_3.size : Int)) = ji4:=hji4
 have HC5:=Aside0.mk H
 clear H
 go_enter Tryd.func16,Tryd.ntmps16
 go_upto_block 0 with (first | ((with_reducible refine gate_dst (N:=1) rfl ?_); refine box_event ?hg (N:=1) ?hd (cs:=#[.int .i64 a0_0,.string a0_1,.string a0_2,.string a0_3,.int .i64 a0_4,.slice A0_5 l0_5.length c0_5,.slice A0_6 l0_6.length c0_6]) (t:=24) ?hr ?_; (case hd => rfl); (case hg => rfl); (case hr => first | (go_simp; done) | (go_simp; rfl)); intro gb101 hg w6 hbox hb; have n0_:=Aside0.mk (below_step (by repeat (first | (with_reducible first | exact HB.out | apply below_alloc | apply pw_below_drewN | apply below_drew1) | exact HB.out)) hb); have n1_:=Aside0.mk (hbox); have n2_:=Aside0.mk ((by rw [hg]; exact (below_size (by repeat (first | (with_reducible first | exact HB.out | apply below_alloc | apply pw_below_drewN | apply below_drew1) | exact HB.out))) : w.heap.size ≤ gb101)); have n3_:=Aside0.mk ((by rw [hg]; exact (below_size (by repeat (first | (with_reducible first | exact HB.out | apply below_alloc | apply pw_below_drewN | apply below_drew1) | exact HB.out))) : w.heap.size ≤ gb101)); clear HB; have HB:=n0_; have BK101:=n1_; have GW101:=n2_; have GE101:=n3_; clear n0_ n1_ n2_ n3_; clear hb hbox hg; have hcz7_0 : w6.cell? ⟨gb101,0,none⟩ = some (.int .i64 a0_0):=(blk_cell BK101.out 0).trans rfl; have hcz7_1 : w6.cell? ⟨gb101,1,none⟩ = some (.string a0_1):=(blk_cell BK101.out 1).trans rfl; have hcz7_2 : w6.cell? ⟨gb101,2,none⟩ = some (.string a0_2):=(blk_cell BK101.out 2).trans rfl; have hcz7_3 : w6.cell? ⟨gb101,3,none⟩ = some (.string a0_3):=(blk_cell BK101.out 3).trans rfl; have hcz7_4 : w6.cell? ⟨gb101,4,none⟩ = some (.int .i64 a0_4):=(blk_cell BK101.out 4).trans rfl; have hcz7_5 : w6.cell? ⟨gb101,5,none⟩ = some (.slice A0_5 l0_5.length c0_5):=(blk_cell BK101.out 5).trans rfl; have hcz7_6 : w6.cell? ⟨gb101,6,none⟩ = some (.slice A0_6 l0_6.length c0_6):=(blk_cell BK101.out 6).trans rfl; have hfz7_0:=blk_frozen BK101.out 0; have hfz7_1:=blk_frozen BK101.out 1; have hfz7_2:=blk_frozen BK101.out 2; have hfz7_3:=blk_frozen BK101.out 3; have hfz7_4:=blk_frozen BK101.out 4; have hfz7_5:=blk_frozen BK101.out 5; have hfz7_6:=blk_frozen BK101.out 6))
 (try simp only [Act.put,List.setIfInBounds_toArray,List.set_cons_zero,List.set_cons_succ])
 go_cut [3] (fun v3 wc => ∃ (kq : Nat) (x3_4 : Int),v3 = .int .i64 x3_4 ∧ Aside0 (counterpanelaw08_Great.j1 kq x3_4 a0_0 a0_1 a0_2 a0_3 a0_4 l0_5 l0_6 = some r) ∧ Aside0 (kq ≤ k) ∧ Aside0 (wc.heap[gb101]? = some (.cells #[.int .i64 a0_0,.string a0_1,.string a0_2,.string a0_3,.int .i64 a0_4,(.slice A0_5 l0_5.length c0_5),(.slice A0_6 l0_6.length c0_6)] 24 (0,0))) ∧ Aside0 (Below w.heap.size w wc))
 case first =>
  have H:=HC5.out
  clear HC5
  have H':=Aside0.mk H
  clear H
  go_wp2
  go_loopg [3,4] k (fun kq v3 v4 w' => ∃ (x3_1 : Int) (x4_1 : Int),v3 = .int .i64 x3_1 ∧ v4 = .int .i64 x4_1 ∧ Aside0 (counterpanelaw08_Great.l0 kq x3_1 x4_1 a0_0 a0_1 a0_2 a0_3 a0_4 l0_5 l0_6 = some r) ∧ Aside0 (kq ≤ k) ∧ Aside0 (w'.heap[gb101]? = some (.cells #[.int .i64 a0_0,.string a0_1,.string a0_2,.string a0_3,.int .i64 a0_4,(.slice A0_5 l0_5.length c0_5),(.slice A0_6 l0_6.length c0_6)] 24 (0,0))) ∧ Aside0 (Below w.heap.size w w'))
  case atStart => exact ⟨(wrap64 ((wrap64 ((((ji2) + (ji3)) + (ji4)) + (l0_5.length : Int))) + (l0_6.length : Int))),(0),(by first | rfl | (simp; done) | (simp only [← hji2,← hji3,← hji4] <;> (first | rfl | simp)) | (simp [*]; done)),(by first | rfl | (simp; done) | (simp [*]; done)),H',⟨Nat.le_refl _⟩,⟨by (with_reducible repeat (first | refine blk_drewN ?_ _ | refine blk_drew ?_ | refine blk_alloc ?_ _)); exact BK101.out⟩,⟨by repeat (first | (with_reducible first | exact HB.out | apply below_alloc | apply pw_below_drewN | apply below_drew1 | refine below_set ?_ GE101.out) | exact HB.out)⟩⟩
  case round =>
   clear H'
   try clear c1
   try clear p2
   try clear p6
   try clear hcz7_0
   try clear hcz7_1
   try clear hcz7_2
   try clear hcz7_3
   try clear hcz7_4
   try clear hcz7_5
   try clear hcz7_6
   try clear hfz7_0
   try clear hfz7_1
   try clear hfz7_2
   try clear hfz7_3
   try clear hfz7_4
   try clear hfz7_5
   try clear hfz7_6
   obtain ⟨x3_1,x4_1,rfl,rfl,HA,HK1,BK101,HB⟩:=hrel
   cases gk with
   | zero => exact absurd HA.out (by simp [counterpanelaw08_Great.l0])
   | succ k1 =>
    have H:=HA.out
    clear HA
    simp only [counterpanelaw08_Great.l0] at H
    by_cases c8 : x4_1 < (l0_5.length : Int)
    ·rw [if_pos c8] at H
     have c8b0 : decide (x4_1 < (l0_5.length : Int)) = true:=decide_eq_true c8
     clear c8
     (first | rw [c8b0] | (simp only [i64_w,i32_w]; rw [c8b0]) | skip)
     by_cases c9 : x3_1 < 4000
     ·rw [if_pos c9] at H
      have c9b0 : decide (x3_1 < 4000) = true:=decide_eq_true c9
      clear c9
      by_cases c10 : 0 ≤ x4_1
      ·rw [if_pos c10] at H
       have c10b0 : decide (0 ≤ x4_1) = true:=decide_eq_true c10
       clear c10
       obtain ⟨ji11,hji11⟩ : ∃ j_ : Int,(mn ((rdOf ByteArray.empty l0_5 x4_1).size : Int) 4000) = j_:=⟨_,rfl⟩
       replace H : (counterpanelaw08_Great.l0 k1 (wrap64 (x3_1 + (ji11))) (wrap64 (x4_1 + 1)) a0_0 a0_1 a0_2 a0_3 a0_4 l0_5 l0_6) = some r:=by first | (rw [hji11] at H; exact H) | (simp only [hji11] at H ⊢; exact H)
       have hji11_ : (if 4000 < ((rdOf ByteArray.empty l0_5 x4_1).size : Int) then 4000 else ((rdOf ByteArray.empty l0_5 x4_1).size : Int)) = ji11:=hji11
       have H':=Aside0.mk H
       clear H
       have hcz12_0 : wr.cell? ⟨gb101,0,none⟩ = some (.int .i64 a0_0):=(blk_cell BK101.out 0).trans rfl
       have hcz12_1 : wr.cell? ⟨gb101,1,none⟩ = some (.string a0_1):=(blk_cell BK101.out 1).trans rfl
       have hcz12_2 : wr.cell? ⟨gb101,2,none⟩ = some (.string a0_2):=(blk_cell BK101.out 2).trans rfl
       have hcz12_3 : wr.cell? ⟨gb101,3,none⟩ = some (.string a0_3):=(blk_cell BK101.out 3).trans rfl
       have hcz12_4 : wr.cell? ⟨gb101,4,none⟩ = some (.int .i64 a0_4):=(blk_cell BK101.out 4).trans rfl
       have hcz12_5 : wr.cell? ⟨gb101,5,none⟩ = some (.slice A0_5 l0_5.length c0_5):=(blk_cell BK101.out 5).trans rfl
       have hcz12_6 : wr.cell? ⟨gb101,6,none⟩ = some (.slice A0_6 l0_6.length c0_6):=(blk_cell BK101.out 6).trans rfl
       have hfz12_0:=blk_frozen BK101.out 0
       have hfz12_1:=blk_frozen BK101.out 1
       have hfz12_2:=blk_frozen BK101.out 2
       have hfz12_3:=blk_frozen BK101.out 3
       have hfz12_4:=blk_frozen BK101.out 4
       have hfz12_5:=blk_frozen BK101.out 5
       have hfz12_6:=blk_frozen BK101.out 6
       have p102 : 0 ≤ (x4_1 : Int):=of_decide_eq_true (by first | (with_reducible assumption) | assumption)
       have q102 : x4_1 < (l0_5.length : Int):=of_decide_eq_true (by first | (with_reducible assumption) | assumption)
       obtain ⟨ad102,e102,hx102_0⟩:=Kd.at_string HR0_5.out x4_1 p102 q102
       cases e102
       replace hx102_0:=(HB.out.cell (World.block_lt_of_cell? w _ hx102_0)).trans hx102_0
       replace p102:=eq_true p102
       replace q102:=eq_true q102
       go_wp2
       go_roundg k1
       case measure => have:=HK1.out; omega
       case rel => exact ⟨(wrap64 (x3_1 + (ji11))),(wrap64 (x4_1 + 1)),(by first | rfl | (simp; done) | (simp only [← hji11] <;> (first | rfl | simp)) | (simp [*]; done)),(by first | rfl | (simp; done) | (simp [*]; done)),H',⟨by have:=HK1.out; omega⟩,⟨by (with_reducible repeat (first | refine blk_drewN ?_ _ | refine blk_drew ?_ | refine blk_alloc ?_ _)); exact BK101.out⟩,⟨by repeat (first | (with_reducible first | exact HB.out | apply below_alloc | apply pw_below_drewN | apply below_drew1 | refine below_set ?_ GE101.out) | exact HB.out)⟩⟩
      ·rw [if_neg c10] at H
       exact absurd H (by simp)
     ·rw [if_neg c9] at H
      have c9b0 : decide (x3_1 < 4000) = false:=decide_eq_false c9
      clear c9
      have H':=Aside0.mk H
      clear H
      have hcz13_0 : wr.cell? ⟨gb101,0,none⟩ = some (.int .i64 a0_0):=(blk_cell BK101.out 0).trans rfl
      have hcz13_1 : wr.cell? ⟨gb101,1,none⟩ = some (.string a0_1):=(blk_cell BK101.out 1).trans rfl
      have hcz13_2 : wr.cell? ⟨gb101,2,none⟩ = some (.string a0_2):=(blk_cell BK101.out 2).trans rfl
      have hcz13_3 : wr.cell? ⟨gb101,3,none⟩ = some (.string a0_3):=(blk_cell BK101.out 3).trans rfl
      have hcz13_4 : wr.cell? ⟨gb101,4,none⟩ = some (.int .i64 a0_4):=(blk_cell BK101.out 4).trans rfl
      have hcz13_5 : wr.cell? ⟨gb101,5,none⟩ = some (.slice A0_5 l0_5.length c0_5):=(blk_cell BK101.out 5).trans rfl
      have hcz13_6 : wr.cell? ⟨gb101,6,none⟩ = some (.slice A0_6 l0_6.length c0_6):=(blk_cell BK101.out 6).trans rfl
      have hfz13_0:=blk_frozen BK101.out 0
      have hfz13_1:=blk_frozen BK101.out 1
      have hfz13_2:=blk_frozen BK101.out 2
      have hfz13_3:=blk_frozen BK101.out 3
      have hfz13_4:=blk_frozen BK101.out 4
      have hfz13_5:=blk_frozen BK101.out 5
      have hfz13_6:=blk_frozen BK101.out 6
      go_wp2
      go_meet
      case rel => exact ⟨_,(x3_1),(by first | rfl | (simp; done) | (simp [*]; done)),H',⟨by have:=HK1.out; first | omega | exact Nat.le_refl _⟩,⟨by (with_reducible repeat (first | refine blk_drewN ?_ _ | refine blk_drew ?_ | refine blk_alloc ?_ _)); exact BK101.out⟩,⟨by repeat (first | (with_reducible first | exact HB.out | apply below_alloc | apply pw_below_drewN | apply below_drew1 | refine below_set ?_ GE101.out) | exact HB.out)⟩⟩
    ·rw [if_neg c8] at H
     have c8b0 : decide (x4_1 < (l0_5.length : Int)) = false:=decide_eq_false c8
     clear c8
     (first | rw [c8b0] | (simp only [i64_w,i32_w]; rw [c8b0]) | skip)
     have H':=Aside0.mk H
     clear H
     have hcz14_0 : wr.cell? ⟨gb101,0,none⟩ = some (.int .i64 a0_0):=(blk_cell BK101.out 0).trans rfl
     have hcz14_1 : wr.cell? ⟨gb101,1,none⟩ = some (.string a0_1):=(blk_cell BK101.out 1).trans rfl
     have hcz14_2 : wr.cell? ⟨gb101,2,none⟩ = some (.string a0_2):=(blk_cell BK101.out 2).trans rfl
     have hcz14_3 : wr.cell? ⟨gb101,3,none⟩ = some (.string a0_3):=(blk_cell BK101.out 3).trans rfl
     have hcz14_4 : wr.cell? ⟨gb101,4,none⟩ = some (.int .i64 a0_4):=(blk_cell BK101.out 4).trans rfl
     have hcz14_5 : wr.cell? ⟨gb101,5,none⟩ = some (.slice A0_5 l0_5.length c0_5):=(blk_cell BK101.out 5).trans rfl
     have hcz14_6 : wr.cell? ⟨gb101,6,none⟩ = some (.slice A0_6 l0_6.length c0_6):=(blk_cell BK101.out 6).trans rfl
     have hfz14_0:=blk_frozen BK101.out 0
     have hfz14_1:=blk_frozen BK101.out 1
     have hfz14_2:=blk_frozen BK101.out 2
     have hfz14_3:=blk_frozen BK101.out 3
     have hfz14_4:=blk_frozen BK101.out 4
     have hfz14_5:=blk_frozen BK101.out 5
     have hfz14_6:=blk_frozen BK101.out 6
     go_wp2
     go_meet
     case rel => exact ⟨_,(x3_1),(by first | rfl | (simp; done) | (simp [*]; done)),H',⟨by have:=HK1.out; first | omega | exact Nat.le_refl _⟩,⟨by (with_reducible repeat (first | refine blk_drewN ?_ _ | refine blk_drew ?_ | refine blk_alloc ?_ _)); exact BK101.out⟩,⟨by repeat (first | (with_reducible first | exact HB.out | apply below_alloc | apply pw_below_drewN | apply below_drew1 | refine below_set ?_ GE101.out) | exact HB.out)⟩⟩
 case rest =>
  clear HC5
  try clear c1
  try clear p1
  try clear q1
  try clear hx1
  try clear p2
  try clear p6
  try clear c8
  try clear c8b0
  try clear c9
  try clear c9b0
  try clear c10
  try clear c10b0
  try clear p10
  try clear q10
  try clear hx10
  try clear hcz12_0
  try clear hcz12_1
  try clear hcz12_2
  try clear hcz12_3
  try clear hcz12_4
  try clear hcz12_5
  try clear hcz12_6
  try clear hcz13_0
  try clear hcz13_1
  try clear hcz13_2
  try clear hcz13_3
  try clear hcz13_4
  try clear hcz13_5
  try clear hcz13_6
  try clear hcz14_0
  try clear hcz14_1
  try clear hcz14_2
  try clear hcz14_3
  try clear hcz14_4
  try clear hcz14_5
  try clear hcz14_6
  try clear hcz7_0
  try clear hcz7_1
  try clear hcz7_2
  try clear hcz7_3
  try clear hcz7_4
  try clear hcz7_5
  try clear hcz7_6
  try clear hfz12_0
  try clear hfz12_1
  try clear hfz12_2
  try clear hfz12_3
  try clear hfz12_4
  try clear hfz12_5
  try clear hfz12_6
  try clear hfz13_0
  try clear hfz13_1
  try clear hfz13_2
  try clear hfz13_3
  try clear hfz13_4
  try clear hfz13_5
  try clear hfz13_6
  try clear hfz14_0
  try clear hfz14_1
  try clear hfz14_2
  try clear hfz14_3
  try clear hfz14_4
  try clear hfz14_5
  try clear hfz14_6
  try clear hfz7_0
  try clear hfz7_1
  try clear hfz7_2
  try clear hfz7_3
  try clear hfz7_4
  try clear hfz7_5
  try clear hfz7_6
  try clear hx102_0
  try clear p102
  try clear p2
  try clear p6
  try clear q102
  obtain ⟨kq,x3_4,rfl,HA,HJ4,BK101,HB⟩:=hcut
  cases kq with
  | zero => exact absurd HA.out (by simp [counterpanelaw08_Great.j1])
  | succ kj4 =>
   have H:=HA.out
   clear HA
   simp only [counterpanelaw08_Great.j1] at H
   have H':=Aside0.mk H
   clear H
   go_wp2
   go_loopg [3,5] kj4 (fun kq v3 v5 w' => ∃ (x3_2 : Int) (x5_2 : Int),v3 = .int .i64 x3_2 ∧ v5 = .int .i64 x5_2 ∧ Aside0 (counterpanelaw08_Great.l1 kq x3_2 x5_2 a0_0 a0_1 a0_2 a0_3 a0_4 l0_5 l0_6 = some r) ∧ Aside0 (kq ≤ kj4) ∧ Aside0 (w'.heap[gb101]? = some (.cells #[.int .i64 a0_0,.string a0_1,.string a0_2,.string a0_3,.int .i64 a0_4,(.slice A0_5 l0_5.length c0_5),(.slice A0_6 l0_6.length c0_6)] 24 (0,0))) ∧ Aside0 (Below w.heap.size w w'))
   case atStart => exact ⟨(x3_4),(0),(by first | rfl | (simp; done) | (simp [*]; done)),(by first | rfl | (simp; done) | (simp [*]; done)),H',⟨Nat.le_refl _⟩,⟨by (with_reducible repeat (first | refine blk_drewN ?_ _ | refine blk_drew ?_ | refine blk_alloc ?_ _)); exact BK101.out⟩,⟨by repeat (first | (with_reducible first | exact HB.out | apply below_alloc | apply pw_below_drewN | apply below_drew1 | refine below_set ?_ GE101.out) | exact HB.out)⟩⟩
   case round =>
    clear H'
    try clear c1
    try clear p1
    try clear q1
    try clear hx1
    try clear p2
    try clear p6
    try clear c8
    try clear c8b0
    try clear c9
    try clear c9b0
    try clear c10
    try clear c10b0
    try clear p10
    try clear q10
    try clear hx10
    try clear hcz12_0
    try clear hcz12_1
    try clear hcz12_2
    try clear hcz12_3
    try clear hcz12_4
    try clear hcz12_5
    try clear hcz12_6
    try clear hcz13_0
    try clear hcz13_1
    try clear hcz13_2
    try clear hcz13_3
    try clear hcz13_4
    try clear hcz13_5
    try clear hcz13_6
    try clear hcz14_0
    try clear hcz14_1
    try clear hcz14_2
    try clear hcz14_3
    try clear hcz14_4
    try clear hcz14_5
    try clear hcz14_6
    try clear hcz7_0
    try clear hcz7_1
    try clear hcz7_2
    try clear hcz7_3
    try clear hcz7_4
    try clear hcz7_5
    try clear hcz7_6
    try clear hfz12_0
    try clear hfz12_1
    try clear hfz12_2
    try clear hfz12_3
    try clear hfz12_4
    try clear hfz12_5
    try clear hfz12_6
    try clear hfz13_0
    try clear hfz13_1
    try clear hfz13_2
    try clear hfz13_3
    try clear hfz13_4
    try clear hfz13_5
    try clear hfz13_6
    try clear hfz14_0
    try clear hfz14_1
    try clear hfz14_2
    try clear hfz14_3
    try clear hfz14_4
    try clear hfz14_5
    try clear hfz14_6
    try clear hfz7_0
    try clear hfz7_1
    try clear hfz7_2
    try clear hfz7_3
    try clear hfz7_4
    try clear hfz7_5
    try clear hfz7_6
    try clear hx102_0
    try clear p1
    try clear p10
    try clear p102
    try clear p2
    try clear p6
    try clear q1
    try clear q10
    try clear q102
    obtain ⟨x3_2,x5_2,rfl,rfl,HA,HK2,BK101,HB⟩:=hrel
    cases gk with
    | zero => exact absurd HA.out (by simp [counterpanelaw08_Great.l1])
    | succ k2 =>
     have H:=HA.out
     clear HA
     simp only [counterpanelaw08_Great.l1] at H
     by_cases c15 : x5_2 < (l0_6.length : Int)
     ·rw [if_pos c15] at H
      have c15b0 : decide (x5_2 < (l0_6.length : Int)) = true:=decide_eq_true c15
      clear c15
      by_cases c16 : x3_2 < 4000
      ·rw [if_pos c16] at H
       have c16b0 : decide (x3_2 < 4000) = true:=decide_eq_true c16
       clear c16
       by_cases c17 : 0 ≤ x5_2
       ·rw [if_pos c17] at H
        have c17b0 : decide (0 ≤ x5_2) = true:=decide_eq_true c17
        clear c17
        obtain ⟨ji18,hji18⟩ : ∃ j_ : Int,(mn ((rdOf ByteArray.empty l0_6 x5_2).size : Int) 4000) = j_:=⟨_,rfl⟩
        replace H : (counterpanelaw08_Great.l1 k2 (wrap64 (x3_2 + (ji18))) (wrap64 (x5_2 + 1)) a0_0 a0_1 a0_2 a0_3 a0_4 l0_5 l0_6) = some r:=by first | (rw [hji18] at H; exact H) | (simp only [hji18] at H ⊢; exact H)
        have hji18_ : (if 4000 < ((rdOf ByteArray.empty l0_6 x5_2).size : Int) then 4000 else ((rdOf ByteArray.empty l0_6 x5_2).size : Int)) = ji18:=hji18
        have H':=Aside0.mk H
        clear H
        have hcz19_0 : wr.cell? ⟨gb101,0,none⟩ = some (.int .i64 a0_0):=(blk_cell BK101.out 0).trans rfl
        have hcz19_1 : wr.cell? ⟨gb101,1,none⟩ = some (.string a0_1):=(blk_cell BK101.out 1).trans rfl
        have hcz19_2 : wr.cell? ⟨gb101,2,none⟩ = some (.string a0_2):=(blk_cell BK101.out 2).trans rfl
        have hcz19_3 : wr.cell? ⟨gb101,3,none⟩ = some (.string a0_3):=(blk_cell BK101.out 3).trans rfl
        have hcz19_4 : wr.cell? ⟨gb101,4,none⟩ = some (.int .i64 a0_4):=(blk_cell BK101.out 4).trans rfl
        have hcz19_5 : wr.cell? ⟨gb101,5,none⟩ = some (.slice A0_5 l0_5.length c0_5):=(blk_cell BK101.out 5).trans rfl
        have hcz19_6 : wr.cell? ⟨gb101,6,none⟩ = some (.slice A0_6 l0_6.length c0_6):=(blk_cell BK101.out 6).trans rfl
        have hfz19_0:=blk_frozen BK101.out 0
        have hfz19_1:=blk_frozen BK101.out 1
        have hfz19_2:=blk_frozen BK101.out 2
        have hfz19_3:=blk_frozen BK101.out 3
        have hfz19_4:=blk_frozen BK101.out 4
        have hfz19_5:=blk_frozen BK101.out 5
        have hfz19_6:=blk_frozen BK101.out 6
        have p103 : 0 ≤ (x5_2 : Int):=of_decide_eq_true (by first | (with_reducible assumption) | assumption)
        have q103 : x5_2 < (l0_6.length : Int):=of_decide_eq_true (by first | (with_reducible assumption) | assumption)
        obtain ⟨ad103,e103,hx103_0⟩:=Kd.at_string HR0_6.out x5_2 p103 q103
        cases e103
        replace hx103_0:=(HB.out.cell (World.block_lt_of_cell? w _ hx103_0)).trans hx103_0
        replace p103:=eq_true p103
        replace q103:=eq_true q103
        go_wp2
        go_roundg k2
        case measure => have:=HJ4.out; have:=HK2.out; omega
        case rel => exact ⟨(wrap64 (x3_2 + (ji18))),(wrap64 (x5_2 + 1)),(by first | rfl | (simp; done) | (simp only [← hji18] <;> (first | rfl | simp)) | (simp [*]; done)),(by first | rfl | (simp; done) | (simp [*]; done)),H',⟨by have:=HJ4.out; have:=HK2.out; omega⟩,⟨by (with_reducible repeat (first | refine blk_drewN ?_ _ | refine blk_drew ?_ | refine blk_alloc ?_ _)); exact BK101.out⟩,⟨by repeat (first | (with_reducible first | exact HB.out | apply below_alloc | apply pw_below_drewN | apply below_drew1 | refine below_set ?_ GE101.out) | exact HB.out)⟩⟩
       ·rw [if_neg c17] at H
        exact absurd H (by simp)
      ·rw [if_neg c16] at H
       have c16b0 : decide (x3_2 < 4000) = false:=decide_eq_false c16
       clear c16
       obtain rfl:=Option.some.inj H
       have hcz20_0 : wr.cell? ⟨gb101,0,none⟩ = some (.int .i64 a0_0):=(blk_cell BK101.out 0).trans rfl
       have hcz20_1 : wr.cell? ⟨gb101,1,none⟩ = some (.string a0_1):=(blk_cell BK101.out 1).trans rfl
       have hcz20_2 : wr.cell? ⟨gb101,2,none⟩ = some (.string a0_2):=(blk_cell BK101.out 2).trans rfl
       have hcz20_3 : wr.cell? ⟨gb101,3,none⟩ = some (.string a0_3):=(blk_cell BK101.out 3).trans rfl
       have hcz20_4 : wr.cell? ⟨gb101,4,none⟩ = some (.int .i64 a0_4):=(blk_cell BK101.out 4).trans rfl
       have hcz20_5 : wr.cell? ⟨gb101,5,none⟩ = some (.slice A0_5 l0_5.length c0_5):=(blk_cell BK101.out 5).trans rfl
       have hcz20_6 : wr.cell? ⟨gb101,6,none⟩ = some (.slice A0_6 l0_6.length c0_6):=(blk_cell BK101.out 6).trans rfl
       have hfz20_0:=blk_frozen BK101.out 0
       have hfz20_1:=blk_frozen BK101.out 1
       have hfz20_2:=blk_frozen BK101.out 2
       have hfz20_3:=blk_frozen BK101.out 3
       have hfz20_4:=blk_frozen BK101.out 4
       have hfz20_5:=blk_frozen BK101.out 5
       have hfz20_6:=blk_frozen BK101.out 6
       go_wp2
       go_ret
       exact ⟨by first | rfl | (simp [errW_none,errW_some] <;> rfl) | (simp only [← hji2,← hji3,← hji4]; first | rfl | (simp [errW_none,errW_some] <;> rfl)) | (simp [*,errW_none,errW_some] <;> rfl),by repeat (first | (with_reducible first | exact HB.out | apply below_alloc | apply pw_below_drewN | apply below_drew1 | refine below_set ?_ GE101.out) | exact HB.out)⟩
     ·rw [if_neg c15] at H
      have c15b0 : decide (x5_2 < (l0_6.length : Int)) = false:=decide_eq_false c15
      clear c15
      obtain rfl:=Option.some.inj H
      have hcz21_0 : wr.cell? ⟨gb101,0,none⟩ = some (.int .i64 a0_0):=(blk_cell BK101.out 0).trans rfl
      have hcz21_1 : wr.cell? ⟨gb101,1,none⟩ = some (.string a0_1):=(blk_cell BK101.out 1).trans rfl
      have hcz21_2 : wr.cell? ⟨gb101,2,none⟩ = some (.string a0_2):=(blk_cell BK101.out 2).trans rfl
      have hcz21_3 : wr.cell? ⟨gb101,3,none⟩ = some (.string a0_3):=(blk_cell BK101.out 3).trans rfl
      have hcz21_4 : wr.cell? ⟨gb101,4,none⟩ = some (.int .i64 a0_4):=(blk_cell BK101.out 4).trans rfl
      have hcz21_5 : wr.cell? ⟨gb101,5,none⟩ = some (.slice A0_5 l0_5.length c0_5):=(blk_cell BK101.out 5).trans rfl
      have hcz21_6 : wr.cell? ⟨gb101,6,none⟩ = some (.slice A0_6 l0_6.length c0_6):=(blk_cell BK101.out 6).trans rfl
      have hfz21_0:=blk_frozen BK101.out 0
      have hfz21_1:=blk_frozen BK101.out 1
      have hfz21_2:=blk_frozen BK101.out 2
      have hfz21_3:=blk_frozen BK101.out 3
      have hfz21_4:=blk_frozen BK101.out 4
      have hfz21_5:=blk_frozen BK101.out 5
      have hfz21_6:=blk_frozen BK101.out 6
      go_wp2
      go_ret
      exact ⟨by first | rfl | (simp [errW_none,errW_some] <;> rfl) | (simp only [← hji2,← hji3,← hji4]; first | rfl | (simp [errW_none,errW_some] <;> rfl)) | (simp [*,errW_none,errW_some] <;> rfl),by repeat (first | (with_reducible first | exact HB.out | apply below_alloc | apply pw_below_drewN | apply below_drew1 | refine below_set ?_ GE101.out) | exact HB.out)⟩

/-! ### counterpanelaw08_GreatList: function 17 -/
def counterpanelaw08_GreatList.l0 : Nat → List (S24) → Int → Option (Bool)
 | 0,_,_ => none
 | k + 1,x0,x3 => if x3 < (x0.length : Int) then (if 0 ≤ x3 then ((counterpanelaw08_Great.f k ((rd_T24 x0 x3).f0) ((rd_T24 x0 x3).f1) ((rd_T24 x0 x3).f2) ((rd_T24 x0 x3).f3) ((rd_T24 x0 x3).f4) ((rd_T24 x0 x3).f5) ((rd_T24 x0 x3).f6)).bind fun t105 => (if t105 = true then (some true) else (counterpanelaw08_GreatList.l0 k x0 (wrap64 (x3 + 1))))) else (none)) else (some false)
def counterpanelaw08_GreatList.f (k : Nat) (l0 : List (S24)) : Option (Bool):=if (l0.length : Int) > 60 then (some true) else (counterpanelaw08_GreatList.l0 k l0 0)
theorem counterpanelaw08_GreatList.mono_l : ∀ k,(∀ y0 y1,LeO (counterpanelaw08_GreatList.l0 k y0 y1) (counterpanelaw08_GreatList.l0 (k + 1) y0 y1))
 | 0 => fun _ _ r h => by simp [counterpanelaw08_GreatList.l0] at h
 | k + 1 => by
  have ih0:=counterpanelaw08_GreatList.mono_l k
  ·intro y0 y1
   unfold counterpanelaw08_GreatList.l0
   repeat' first
   | (with_reducible exact ih0 _ _)
   | (with_reducible exact counterpanelaw08_Great.mono _ _ _ _ _ _ _ _)
   | (with_reducible exact LeO.refl _)
   | (with_reducible exact LeO.none _)
   | (with_reducible refine LeO.ite ?_ ?_)
   | (with_reducible refine LeO.bind ?_ (fun _ => ?_))
   | exact ih0 _ _
   | exact counterpanelaw08_Great.mono _ _ _ _ _ _ _ _
   | exact LeO.none _
   | refine LeO.ite ?_ ?_
   | refine LeO.bind ?_ (fun _ => ?_)
theorem counterpanelaw08_GreatList.mono : ∀ a0 k,LeO (counterpanelaw08_GreatList.f k a0) (counterpanelaw08_GreatList.f (k + 1) a0):=by
 intro a0 k
 have ih0:=counterpanelaw08_GreatList.mono_l k
 unfold counterpanelaw08_GreatList.f
 repeat' first
   | (with_reducible exact ih0 _ _)
   | (with_reducible exact counterpanelaw08_Great.mono _ _ _ _ _ _ _ _)
   | (with_reducible exact LeO.refl _)
   | (with_reducible exact LeO.none _)
   | (with_reducible refine LeO.ite ?_ ?_)
   | (with_reducible refine LeO.bind ?_ (fun _ => ?_))
   | exact ih0 _ _
   | exact counterpanelaw08_Great.mono _ _ _ _ _ _ _ _
   | exact LeO.none _
   | refine LeO.ite ?_ ?_
   | refine LeO.bind ?_ (fun _ => ?_)
set_option maxHeartbeats 8000000 in
set_option maxRecDepth 100000 in
theorem counterpanelaw08_GreatList.calls (k : Nat) (A0 : Option Addr) (c0 : Nat) (l0 : List (S24)) (r : Bool) (w : World) (hr0 : Kd.C k24 w A0 l0.length l0) (hc0 : l0.length ≤ c0) (h : counterpanelaw08_GreatList.f k l0 = some r) :
  Calls Tryd.prog 17 #[.slice A0 l0.length c0] w fun e w' => e = .returned (.bool r) ∧ Below w.heap.size w w':=by
 have hu24:=Tryd.underlying24
 have HR0:=Aside0.mk hr0
 have HC0:=Aside0.mk hc0
 clear hr0 hc0
 have HB:=Aside0.mk (Below.refl w.heap.size w)
 have H : (if (l0.length : Int) > 60 then (some true) else (counterpanelaw08_GreatList.l0 k l0 0)) = some r:=h
 clear h
 by_cases c2 : (l0.length : Int) > 60
 ·rw [if_pos c2] at H
  have c2b0 : decide (60 < (l0.length : Int)) = true:=decide_eq_true c2
  have c2b1 : decide (60 < l0.length) = true:=decide_eq_true (by omega)
  clear c2
  obtain rfl:=Option.some.inj H
  go_enter Tryd.func17,Tryd.ntmps17
  go_wp2
  go_ret
  exact ⟨by first | rfl | (simp [errW_none,errW_some] <;> rfl) | (simp [*,errW_none,errW_some] <;> rfl),by repeat (first | (with_reducible first | exact HB.out | apply below_alloc | apply pw_below_drewN | apply below_drew1) | exact HB.out)⟩
 ·rw [if_neg c2] at H
  have c2b0 : decide (60 < (l0.length : Int)) = false:=decide_eq_false c2
  have c2b1 : decide (60 < l0.length) = false:=decide_eq_false (by omega)
  clear c2
  have H':=Aside0.mk H
  clear H
  go_enter Tryd.func17,Tryd.ntmps17
  go_wp2
  go_loopg [3] k (fun kq v3 w' => ∃ (x3_1 : Int),v3 = .int .i64 x3_1 ∧ Aside0 (counterpanelaw08_GreatList.l0 kq l0 x3_1 = some r) ∧ Aside0 (kq ≤ k) ∧ Aside0 (Below w.heap.size w w'))
  case atStart => exact ⟨(0),(by first | rfl | (simp; done) | (simp [*]; done)),H',⟨Nat.le_refl _⟩,⟨by repeat (first | (with_reducible first | exact HB.out | apply below_alloc | apply pw_below_drewN | apply below_drew1) | exact HB.out)⟩⟩
  case round =>
   clear H'
   try clear c1
   try clear c2
   try clear c2b0
   try clear c2b1
   try clear p2
   obtain ⟨x3_1,rfl,HA,HK1,HB⟩:=hrel
   cases gk with
   | zero => exact absurd HA.out (by simp [counterpanelaw08_GreatList.l0])
   | succ k1 =>
    have H:=HA.out
    clear HA
    simp only [counterpanelaw08_GreatList.l0] at H
    by_cases c3 : x3_1 < (l0.length : Int)
    ·rw [if_pos c3] at H
     have c3b0 : decide (x3_1 < (l0.length : Int)) = true:=decide_eq_true c3
     clear c3
     by_cases c4 : 0 ≤ x3_1
     ·rw [if_pos c4] at H
      have c4b0 : decide (0 ≤ x3_1) = true:=decide_eq_true c4
      clear c4
      replace H:=Option.bind_eq_some_iff.mp H
      obtain ⟨t105,A50,H⟩:=H
      replace H : (if t105 = true then (some true) else (counterpanelaw08_GreatList.l0 k1 l0 (wrap64 (x3_1 + 1)))) = some r:=H
      have A5:=Aside0.mk A50
      clear A50
      by_cases c6 : t105 = true
      ·subst c6
       have H1 : (some true) = some r:=by rw [if_pos rfl] at H; exact H
       clear H
       have H:=H1
       clear H1
       obtain rfl:=Option.some.inj H
       have p104 : 0 ≤ (x3_1 : Int):=of_decide_eq_true (by first | (with_reducible assumption) | assumption)
       have q104 : x3_1 < (l0.length : Int):=of_decide_eq_true (by first | (with_reducible assumption) | assumption)
       obtain ⟨ad104,A104_5,c104_5,A104_6,c104_6,e104,hx104_0,hx104_1,hx104_2,hx104_3,hx104_4,hx104_5,hx104_6,hl104_5,hi104_5,hl104_6,hi104_6⟩:=at_T24 HR0.out x3_1 p104 q104
       cases e104
       replace hx104_0:=(HB.out.cell (World.block_lt_of_cell? w _ hx104_0)).trans hx104_0
       replace hx104_1:=(HB.out.cell (World.block_lt_of_cell? w _ hx104_1)).trans hx104_1
       replace hx104_2:=(HB.out.cell (World.block_lt_of_cell? w _ hx104_2)).trans hx104_2
       replace hx104_3:=(HB.out.cell (World.block_lt_of_cell? w _ hx104_3)).trans hx104_3
       replace hx104_4:=(HB.out.cell (World.block_lt_of_cell? w _ hx104_4)).trans hx104_4
       replace hx104_5:=(HB.out.cell (World.block_lt_of_cell? w _ hx104_5)).trans hx104_5
       replace hx104_6:=(HB.out.cell (World.block_lt_of_cell? w _ hx104_6)).trans hx104_6
       have HR104_5:=Aside0.mk hi104_5
       have HC104_5:=Aside0.mk hl104_5
       clear hi104_5 hl104_5
       have HR104_6:=Aside0.mk hi104_6
       have HC104_6:=Aside0.mk hl104_6
       clear hi104_6 hl104_6
       replace p104:=eq_true p104
       replace q104:=eq_true q104
       go_wp2_with (first | ((with_reducible refine gate_callee (f:=16) rfl ?_); refine goesL_ (some 17) rfl rfl Tryd.func16 (by kernel_rfl) rfl #[.agg #[.int .i64 ((rd_T24 l0 x3_1).f0),.string ((rd_T24 l0 x3_1).f1),.string ((rd_T24 l0 x3_1).f2),.string ((rd_T24 l0 x3_1).f3),.int .i64 ((rd_T24 l0 x3_1).f4),.slice A104_5 ((rd_T24 l0 x3_1).f5).length c104_5,.slice A104_6 ((rd_T24 l0 x3_1).f6).length c104_6]] rfl (by (try simp only [List.map_toArray,List.map_cons,List.map_nil]); first | done | rfl | (simp only [List.length_drop,List.length_take]; rfl)) ?_; (with_reducible refine (counterpanelaw08_Great.calls k1 ((rd_T24 l0 x3_1).f0) ((rd_T24 l0 x3_1).f1) ((rd_T24 l0 x3_1).f2) ((rd_T24 l0 x3_1).f3) ((rd_T24 l0 x3_1).f4) _ _ ((rd_T24 l0 x3_1).f5) _ _ ((rd_T24 l0 x3_1).f6) true _ ?side1 ?side2 ?side3 ?side4 A5.out).mono ?_); (case side1 => repeat (first | exact (Kd.C_below HR104_5.out HB.out) | (with_reducible refine Kd.C_alloc ?_ _) | (with_reducible refine Kd.C_drewN ?_ _) | (with_reducible refine Kd.C_drew ?_))); (case side2 => exact HC104_5.out); (case side3 => repeat (first | exact (Kd.C_below HR104_6.out HB.out) | (with_reducible refine Kd.C_alloc ?_ _) | (with_reducible refine Kd.C_drewN ?_ _) | (with_reducible refine Kd.C_drew ?_))); (case side4 => exact HC104_6.out); rintro e w7 ⟨rfl,hb⟩; refine ⟨_,rfl,?_⟩; have n0_:=Aside0.mk (below_step (by repeat (first | (with_reducible first | exact HB.out | apply below_alloc | apply pw_below_drewN | apply below_drew1) | exact HB.out)) hb); clear HB; have HB:=n0_; clear n0_; (try clear hb); (try clear hb2); (try clear hk); (try clear hi)))
       go_ret
       exact ⟨by first | rfl | (simp [errW_none,errW_some] <;> rfl) | (simp [*,errW_none,errW_some] <;> rfl),by repeat (first | (with_reducible first | exact HB.out | apply below_alloc | apply pw_below_drewN | apply below_drew1) | exact HB.out)⟩
      ·replace c6:=Bool.eq_false_iff.mpr c6
       subst c6
       have H1 : (counterpanelaw08_GreatList.l0 k1 l0 (wrap64 (x3_1 + 1))) = some r:=by rw [if_neg (show ¬ (false = true) by decide)] at H; exact H
       clear H
       have H:=H1
       clear H1
       have H':=Aside0.mk H
       clear H
       have p104 : 0 ≤ (x3_1 : Int):=of_decide_eq_true (by first | (with_reducible assumption) | assumption)
       have q104 : x3_1 < (l0.length : Int):=of_decide_eq_true (by first | (with_reducible assumption) | assumption)
       obtain ⟨ad104,A104_5,c104_5,A104_6,c104_6,e104,hx104_0,hx104_1,hx104_2,hx104_3,hx104_4,hx104_5,hx104_6,hl104_5,hi104_5,hl104_6,hi104_6⟩:=at_T24 HR0.out x3_1 p104 q104
       cases e104
       replace hx104_0:=(HB.out.cell (World.block_lt_of_cell? w _ hx104_0)).trans hx104_0
       replace hx104_1:=(HB.out.cell (World.block_lt_of_cell? w _ hx104_1)).trans hx104_1
       replace hx104_2:=(HB.out.cell (World.block_lt_of_cell? w _ hx104_2)).trans hx104_2
       replace hx104_3:=(HB.out.cell (World.block_lt_of_cell? w _ hx104_3)).trans hx104_3
       replace hx104_4:=(HB.out.cell (World.block_lt_of_cell? w _ hx104_4)).trans hx104_4
       replace hx104_5:=(HB.out.cell (World.block_lt_of_cell? w _ hx104_5)).trans hx104_5
       replace hx104_6:=(HB.out.cell (World.block_lt_of_cell? w _ hx104_6)).trans hx104_6
       have HR104_5:=Aside0.mk hi104_5
       have HC104_5:=Aside0.mk hl104_5
       clear hi104_5 hl104_5
       have HR104_6:=Aside0.mk hi104_6
       have HC104_6:=Aside0.mk hl104_6
       clear hi104_6 hl104_6
       replace p104:=eq_true p104
       replace q104:=eq_true q104
       go_wp2_with (first | ((with_reducible refine gate_callee (f:=16) rfl ?_); refine goesL_ (some 17) rfl rfl Tryd.func16 (by kernel_rfl) rfl #[.agg #[.int .i64 ((rd_T24 l0 x3_1).f0),.string ((rd_T24 l0 x3_1).f1),.string ((rd_T24 l0 x3_1).f2),.string ((rd_T24 l0 x3_1).f3),.int .i64 ((rd_T24 l0 x3_1).f4),.slice A104_5 ((rd_T24 l0 x3_1).f5).length c104_5,.slice A104_6 ((rd_T24 l0 x3_1).f6).length c104_6]] rfl (by (try simp only [List.map_toArray,List.map_cons,List.map_nil]); first | done | rfl | (simp only [List.length_drop,List.length_take]; rfl)) ?_; (with_reducible refine (counterpanelaw08_Great.calls k1 ((rd_T24 l0 x3_1).f0) ((rd_T24 l0 x3_1).f1) ((rd_T24 l0 x3_1).f2) ((rd_T24 l0 x3_1).f3) ((rd_T24 l0 x3_1).f4) _ _ ((rd_T24 l0 x3_1).f5) _ _ ((rd_T24 l0 x3_1).f6) false _ ?side1 ?side2 ?side3 ?side4 A5.out).mono ?_); (case side1 => repeat (first | exact (Kd.C_below HR104_5.out HB.out) | (with_reducible refine Kd.C_alloc ?_ _) | (with_reducible refine Kd.C_drewN ?_ _) | (with_reducible refine Kd.C_drew ?_))); (case side2 => exact HC104_5.out); (case side3 => repeat (first | exact (Kd.C_below HR104_6.out HB.out) | (with_reducible refine Kd.C_alloc ?_ _) | (with_reducible refine Kd.C_drewN ?_ _) | (with_reducible refine Kd.C_drew ?_))); (case side4 => exact HC104_6.out); rintro e w8 ⟨rfl,hb⟩; refine ⟨_,rfl,?_⟩; have n0_:=Aside0.mk (below_step (by repeat (first | (with_reducible first | exact HB.out | apply below_alloc | apply pw_below_drewN | apply below_drew1) | exact HB.out)) hb); clear HB; have HB:=n0_; clear n0_; (try clear hb); (try clear hb2); (try clear hk); (try clear hi)))
       go_roundg k1
       case measure => have:=HK1.out; omega
       case rel => exact ⟨(wrap64 (x3_1 + 1)),(by first | rfl | (simp; done) | (simp [*]; done)),H',⟨by have:=HK1.out; omega⟩,⟨by repeat (first | (with_reducible first | exact HB.out | apply below_alloc | apply pw_below_drewN | apply below_drew1) | exact HB.out)⟩⟩
     ·rw [if_neg c4] at H
      exact absurd H (by simp)
    ·rw [if_neg c3] at H
     have c3b0 : decide (x3_1 < (l0.length : Int)) = false:=decide_eq_false c3
     clear c3
     obtain rfl:=Option.some.inj H
     go_wp2
     go_ret
     exact ⟨by first | rfl | (simp [errW_none,errW_some] <;> rfl) | (simp [*,errW_none,errW_some] <;> rfl),by repeat (first | (with_reducible first | exact HB.out | apply below_alloc | apply pw_below_drewN | apply below_drew1) | exact HB.out)⟩

-- NOT PRINTED: function 99 (strings_splitSeq)

-- NOT PRINTED: function 76 (strings_SplitSeq)

-- NOT PRINTED: function 127 (strings_indexFunc)

-- NOT PRINTED: function 119 (strings_IndexFunc)

-- NOT PRINTED: function 100 (strings_ContainsFunc)

-- NOT PRINTED: function 77 (path_part)

/-! ### lines_in: function 78 -/
def lines_in.f (a0 : Int) : Option (Bool):=if a0 = 95 then (some true) else (if 97 ≤ (Go.bits .or .u8 a0 32) then (if (Go.bits .or .u8 a0 32) ≤ 122 then (some true) else (if 48 ≤ a0 then (some (decide (a0 ≤ 57))) else (some false))) else (if 48 ≤ a0 then (some (decide (a0 ≤ 57))) else (some false)))
set_option maxHeartbeats 8000000 in
set_option maxRecDepth 100000 in
theorem lines_in.calls (a0 : Int) (r : Bool) (w : World) (h : lines_in.f a0 = some r) :
  Calls Tryd.prog 78 #[.int .u8 a0] w fun e w' => e = .returned (.bool r) ∧ Drawn0 w w':=by
 have H : (if a0 = 95 then (some true) else (if 97 ≤ (Go.bits .or .u8 a0 32) then (if (Go.bits .or .u8 a0 32) ≤ 122 then (some true) else (if 48 ≤ a0 then (some (decide (a0 ≤ 57))) else (some false))) else (if 48 ≤ a0 then (some (decide (a0 ≤ 57))) else (some false)))) = some r:=h
 clear h
 by_cases c2 : a0 = 95
 ·rw [if_pos c2] at H
  have c2b0 : (a0 == 95) = true:=beq_iff_eq.mpr c2
  have c2b1 : (a0 != 95) = false:=bne_eq_false_iff_eq.mpr c2
  clear c2
  obtain rfl:=Option.some.inj H
  go_enter Tryd.func78,Tryd.ntmps78
  go_wp2
  go_ret
  exact ⟨by first | rfl | (simp; done) | (simp [*]; done) | (simp [show ∀ l : List UInt8,(l != []) = !l.isEmpty from fun l => by cases l <;> rfl]; done),by repeat (first | exact Drawn0.refl _ | apply Drawn0.step)⟩
 ·rw [if_neg c2] at H
  have c2b0 : (a0 == 95) = false:=beq_eq_false_iff_ne.mpr c2
  have c2b1 : (a0 != 95) = true:=bne_iff_ne.mpr c2
  by_cases c3 : 97 ≤ (Go.bits .or .u8 a0 32)
  ·rw [if_pos c3] at H
   have c3b0 : decide (97 ≤ (Go.bits .or .u8 a0 32)) = true:=decide_eq_true c3
   clear c3
   by_cases c4 : (Go.bits .or .u8 a0 32) ≤ 122
   ·rw [if_pos c4] at H
    have c4b0 : decide ((Go.bits .or .u8 a0 32) ≤ 122) = true:=decide_eq_true c4
    clear c4
    obtain rfl:=Option.some.inj H
    go_enter Tryd.func78,Tryd.ntmps78
    go_wp2
    go_ret
    exact ⟨by first | rfl | (simp; done) | (simp [*]; done) | (simp [show ∀ l : List UInt8,(l != []) = !l.isEmpty from fun l => by cases l <;> rfl]; done),by repeat (first | exact Drawn0.refl _ | apply Drawn0.step)⟩
   ·rw [if_neg c4] at H
    have c4b0 : decide ((Go.bits .or .u8 a0 32) ≤ 122) = false:=decide_eq_false c4
    clear c4
    by_cases c5 : 48 ≤ a0
    ·rw [if_pos c5] at H
     have c5b0 : decide (48 ≤ a0) = true:=decide_eq_true c5
     clear c5
     obtain rfl:=Option.some.inj H
     go_enter Tryd.func78,Tryd.ntmps78
     go_wp2
     go_ret
     exact ⟨by first | rfl | (simp; done) | (simp [*]; done) | (simp [show ∀ l : List UInt8,(l != []) = !l.isEmpty from fun l => by cases l <;> rfl]; done),by repeat (first | exact Drawn0.refl _ | apply Drawn0.step)⟩
    ·rw [if_neg c5] at H
     have c5b0 : decide (48 ≤ a0) = false:=decide_eq_false c5
     clear c5
     obtain rfl:=Option.some.inj H
     go_enter Tryd.func78,Tryd.ntmps78
     go_wp2
     go_ret
     exact ⟨by first | rfl | (simp; done) | (simp [*]; done) | (simp [show ∀ l : List UInt8,(l != []) = !l.isEmpty from fun l => by cases l <;> rfl]; done),by repeat (first | exact Drawn0.refl _ | apply Drawn0.step)⟩
  ·rw [if_neg c3] at H
   have c3b0 : decide (97 ≤ (Go.bits .or .u8 a0 32)) = false:=decide_eq_false c3
   clear c3
   by_cases c6 : 48 ≤ a0
   ·rw [if_pos c6] at H
    have c6b0 : decide (48 ≤ a0) = true:=decide_eq_true c6
    clear c6
    obtain rfl:=Option.some.inj H
    go_enter Tryd.func78,Tryd.ntmps78
    go_wp2
    go_ret
    exact ⟨by first | rfl | (simp; done) | (simp [*]; done) | (simp [show ∀ l : List UInt8,(l != []) = !l.isEmpty from fun l => by cases l <;> rfl]; done),by repeat (first | exact Drawn0.refl _ | apply Drawn0.step)⟩
   ·rw [if_neg c6] at H
    have c6b0 : decide (48 ≤ a0) = false:=decide_eq_false c6
    clear c6
    obtain rfl:=Option.some.inj H
    go_enter Tryd.func78,Tryd.ntmps78
    go_wp2
    go_ret
    exact ⟨by first | rfl | (simp; done) | (simp [*]; done) | (simp [show ∀ l : List UInt8,(l != []) = !l.isEmpty from fun l => by cases l <;> rfl]; done),by repeat (first | exact Drawn0.refl _ | apply Drawn0.step)⟩

/-! ### lines_Token: function 47 -/
def lines_Token.l0 : Nat → ByteArray → Int → Int → Option (Bool)
 | 0,_,_,_ => none
 | k + 1,x0,x5,x6 => if x6 < x5 then (if 0 ≤ x6 then (if x6 < (x0.size : Int) then ((lines_in.f (bt x0 x6)).bind fun t106 => (if t106 = true then (lines_Token.l0 k x0 x5 (wrap64 (x6 + 1))) else (some false))) else (none)) else (none)) else (some (x0.toList != ([] : List UInt8)))
def lines_Token.f (k : Nat) (a0 : ByteArray) : Option (Bool):=lines_Token.l0 k a0 (a0.size : Int) 0
theorem lines_Token.mono_l : ∀ k,(∀ y0 y1 y2,LeO (lines_Token.l0 k y0 y1 y2) (lines_Token.l0 (k + 1) y0 y1 y2))
 | 0 => fun _ _ _ r h => by simp [lines_Token.l0] at h
 | k + 1 => by
  have ih0:=lines_Token.mono_l k
  ·intro y0 y1 y2
   unfold lines_Token.l0
   repeat' first
   | (with_reducible exact ih0 _ _ _)
   | (with_reducible exact LeO.refl _)
   | (with_reducible exact LeO.none _)
   | (with_reducible refine LeO.ite ?_ ?_)
   | (with_reducible refine LeO.bind ?_ (fun _ => ?_))
   | exact ih0 _ _ _
   | exact LeO.none _
   | refine LeO.ite ?_ ?_
   | refine LeO.bind ?_ (fun _ => ?_)
theorem lines_Token.mono : ∀ a0 k,LeO (lines_Token.f k a0) (lines_Token.f (k + 1) a0):=by
 intro a0 k
 have ih0:=lines_Token.mono_l k
 unfold lines_Token.f
 repeat' first
   | (with_reducible exact ih0 _ _ _)
   | (with_reducible exact LeO.refl _)
   | (with_reducible exact LeO.none _)
   | (with_reducible refine LeO.ite ?_ ?_)
   | (with_reducible refine LeO.bind ?_ (fun _ => ?_))
   | exact ih0 _ _ _
   | exact LeO.none _
   | refine LeO.ite ?_ ?_
   | refine LeO.bind ?_ (fun _ => ?_)
set_option maxHeartbeats 8000000 in
set_option maxRecDepth 100000 in
theorem lines_Token.calls (k : Nat) (a0 : ByteArray) (r : Bool) (w : World) (h : lines_Token.f k a0 = some r) :
  Calls Tryd.prog 47 #[.string a0] w fun e w' => e = .returned (.bool r) ∧ Drawn0 w w':=by
 have H : (lines_Token.l0 k a0 (a0.size : Int) 0) = some r:=h
 clear h
 have H':=Aside0.mk H
 clear H
 go_enter Tryd.func47,Tryd.ntmps47
 go_wp2
 go_loopg [6] k (fun kq v6 w' => ∃ (x6_1 : Int),v6 = .int .i64 x6_1 ∧ Aside0 (lines_Token.l0 kq a0 (a0.size : Int) x6_1 = some r) ∧ Aside0 (kq ≤ k) ∧ Drawn0 w w')
 case atStart => exact ⟨(0),(by first | rfl | (simp; done) | (simp [*]; done)),H',⟨Nat.le_refl _⟩,by repeat (first | exact Drawn0.refl _ | apply Drawn0.step)⟩
 case round =>
  clear H'
  obtain ⟨x6_1,rfl,HA,HK1,⟨m1,rfl⟩⟩:=hrel
  cases gk with
  | zero => exact absurd HA.out (by simp [lines_Token.l0])
  | succ k1 =>
   have H:=HA.out
   clear HA
   simp only [lines_Token.l0] at H
   by_cases c2 : x6_1 < (a0.size : Int)
   ·rw [if_pos c2] at H
    have c2b0 : decide (x6_1 < (a0.size : Int)) = true:=decide_eq_true c2
    clear c2
    by_cases c3 : 0 ≤ x6_1
    ·rw [if_pos c3] at H
     have c3b0 : decide (0 ≤ x6_1) = true:=decide_eq_true c3
     clear c3
     by_cases c4 : x6_1 < (a0.size : Int)
     ·rw [if_pos c4] at H
      have c4b0 : decide (x6_1 < (a0.size : Int)) = true:=decide_eq_true c4
      clear c4
      replace H:=Option.bind_eq_some_iff.mp H
      obtain ⟨t106,A60,H⟩:=H
      replace H : (if t106 = true then (lines_Token.l0 k1 a0 (a0.size : Int) (wrap64 (x6_1 + 1))) else (some false)) = some r:=H
      have A6:=Aside0.mk A60
      clear A60
      by_cases c7 : t106 = true
      ·subst c7
       have H1 : (lines_Token.l0 k1 a0 (a0.size : Int) (wrap64 (x6_1 + 1))) = some r:=by rw [if_pos rfl] at H; exact H
       clear H
       have H:=H1
       clear H1
       have H':=Aside0.mk H
       clear H
       have p5 : 0 ≤ (x6_1 : Int):=of_decide_eq_true (by first | (with_reducible assumption) | assumption)
       have q5 : x6_1 < (a0.size : Int):=of_decide_eq_true (by first | (with_reducible assumption) | assumption)
       have hx5:=bt_at a0 x6_1
       replace p5:=eq_true p5
       replace q5:=eq_true q5
       go_wp2_with (first | ((with_reducible refine gate_callee (f:=78) rfl ?_); refine goesL_ (some 12) rfl rfl Tryd.func78 (by kernel_rfl) rfl #[.int .u8 (bt a0 x6_1)] rfl (by (try simp only [List.map_toArray,List.map_cons,List.map_nil]); first | done | rfl | (simp only [List.length_drop,List.length_take]; rfl)) ?_; (with_reducible refine (lines_in.calls (bt a0 x6_1) true _ A6.out).mono ?_); rintro e w' ⟨rfl,⟨nd,rfl⟩⟩; refine ⟨_,rfl,?_⟩))
       go_roundg k1
       case measure => have:=HK1.out; omega
       case rel => exact ⟨(wrap64 (x6_1 + 1)),(by first | rfl | (simp; done) | (simp [*]; done)),H',⟨by have:=HK1.out; omega⟩,by repeat (first | exact Drawn0.refl _ | apply Drawn0.step)⟩
      ·replace c7:=Bool.eq_false_iff.mpr c7
       subst c7
       have H1 : (some false) = some r:=by rw [if_neg (show ¬ (false = true) by decide)] at H; exact H
       clear H
       have H:=H1
       clear H1
       obtain rfl:=Option.some.inj H
       have p5 : 0 ≤ (x6_1 : Int):=of_decide_eq_true (by first | (with_reducible assumption) | assumption)
       have q5 : x6_1 < (a0.size : Int):=of_decide_eq_true (by first | (with_reducible assumption) | assumption)
       have hx5:=bt_at a0 x6_1
       replace p5:=eq_true p5
       replace q5:=eq_true q5
       go_wp2_with (first | ((with_reducible refine gate_callee (f:=78) rfl ?_); refine goesL_ (some 12) rfl rfl Tryd.func78 (by kernel_rfl) rfl #[.int .u8 (bt a0 x6_1)] rfl (by (try simp only [List.map_toArray,List.map_cons,List.map_nil]); first | done | rfl | (simp only [List.length_drop,List.length_take]; rfl)) ?_; (with_reducible refine (lines_in.calls (bt a0 x6_1) false _ A6.out).mono ?_); rintro e w' ⟨rfl,⟨nd,rfl⟩⟩; refine ⟨_,rfl,?_⟩))
       go_ret
       exact ⟨by first | rfl | (simp; done) | (simp [*]; done) | (simp [show ∀ l : List UInt8,(l != []) = !l.isEmpty from fun l => by cases l <;> rfl]; done),by repeat (first | exact Drawn0.refl _ | apply Drawn0.step)⟩
     ·rw [if_neg c4] at H
      exact absurd H (by simp)
    ·rw [if_neg c3] at H
     exact absurd H (by simp)
   ·rw [if_neg c2] at H
    have c2b0 : decide (x6_1 < (a0.size : Int)) = false:=decide_eq_false c2
    clear c2
    obtain rfl:=Option.some.inj H
    go_wp2
    go_ret
    exact ⟨by first | rfl | (simp; done) | (simp [*]; done) | (simp [show ∀ l : List UInt8,(l != []) = !l.isEmpty from fun l => by cases l <;> rfl]; done),by repeat (first | exact Drawn0.refl _ | apply Drawn0.step)⟩

end Go.Proofs.YthhohbidjhcjeaaDoor.Q
namespace Go.Proofs.YthhohbidjhcjeaaDoor.Q
open Go.RowKit Go.Proofs.YthhohbidjhcjeaaDoorW.PrintWords Go.Proofs.YthhohbidjhcjeaaDoorW.PrintLast Go.Proofs.YthhohbidjhcjeaaDoorW.PrintMore
attribute [local go_sem] max2_int min2_int max_two min_two max_three min_three max_four min_four   -- for this text's walks alone
set_option linter.unusedVariables false
set_option linter.unusedSimpArgs false

/-! ### counterpaneref05_Same: function 50 -/
def counterpaneref05_Same.l0 : Nat → List ByteArray → List ByteArray → Int → Option (Bool)
 | 0,_,_,_ => none
 | k + 1,x0,x1,x5 => if x5 < (x0.length : Int) then (if 0 ≤ x5 then (if x5 < (x1.length : Int) then (if (rdOf ByteArray.empty x0 x5).toList = (rdOf ByteArray.empty x1 x5).toList then (counterpaneref05_Same.l0 k x0 x1 (wrap64 (x5 + 1))) else (some false)) else (none)) else (none)) else (some true)
def counterpaneref05_Same.f (k : Nat) (l0 : List ByteArray) (l1 : List ByteArray) : Option (Bool):=if (l0.length : Int) = (l1.length : Int) then (counterpaneref05_Same.l0 k l0 l1 0) else (some false)
theorem counterpaneref05_Same.mono_l : ∀ k,(∀ y0 y1 y2,LeO (counterpaneref05_Same.l0 k y0 y1 y2) (counterpaneref05_Same.l0 (k + 1) y0 y1 y2))
 | 0 => fun _ _ _ r h => by simp [counterpaneref05_Same.l0] at h
 | k + 1 => by
  have ih0:=counterpaneref05_Same.mono_l k
  ·intro y0 y1 y2
   unfold counterpaneref05_Same.l0
   repeat' first
   | (with_reducible exact ih0 _ _ _)
   | (with_reducible exact LeO.refl _)
   | (with_reducible exact LeO.none _)
   | (with_reducible refine LeO.ite ?_ ?_)
   | (with_reducible refine LeO.bind ?_ (fun _ => ?_))
   | exact ih0 _ _ _
   | exact LeO.none _
   | refine LeO.ite ?_ ?_
   | refine LeO.bind ?_ (fun _ => ?_)
theorem counterpaneref05_Same.mono : ∀ a0 a1 k,LeO (counterpaneref05_Same.f k a0 a1) (counterpaneref05_Same.f (k + 1) a0 a1):=by
 intro a0 a1 k
 have ih0:=counterpaneref05_Same.mono_l k
 unfold counterpaneref05_Same.f
 repeat' first
   | (with_reducible exact ih0 _ _ _)
   | (with_reducible exact LeO.refl _)
   | (with_reducible exact LeO.none _)
   | (with_reducible refine LeO.ite ?_ ?_)
   | (with_reducible refine LeO.bind ?_ (fun _ => ?_))
   | exact ih0 _ _ _
   | exact LeO.none _
   | refine LeO.ite ?_ ?_
   | refine LeO.bind ?_ (fun _ => ?_)
set_option maxHeartbeats 8000000 in
set_option maxRecDepth 100000 in
theorem counterpaneref05_Same.calls (k : Nat) (A0 : Option Addr) (c0 : Nat) (l0 : List ByteArray) (A1 : Option Addr) (c1 : Nat) (l1 : List ByteArray) (r : Bool) (w : World) (hr0 : Kd.C Kd.string w A0 l0.length l0) (hc0 : l0.length ≤ c0) (hr1 : Kd.C Kd.string w A1 l1.length l1) (hc1 : l1.length ≤ c1) (h : counterpaneref05_Same.f k l0 l1 = some r) :
  Calls Tryd.prog 50 #[.slice A0 l0.length c0,.slice A1 l1.length c1] w fun e w' => e = .returned (.bool r) ∧ Drawn0 w w':=by
 have HR0:=Aside0.mk hr0
 have HC0:=Aside0.mk hc0
 clear hr0 hc0
 have HR1:=Aside0.mk hr1
 have HC1:=Aside0.mk hc1
 clear hr1 hc1
 have H : (if (l0.length : Int) = (l1.length : Int) then (counterpaneref05_Same.l0 k l0 l1 0) else (some false)) = some r:=h
 clear h
 by_cases c3 : (l0.length : Int) = (l1.length : Int)
 ·rw [if_pos c3] at H
  have c3b0 : ((l0.length : Int) == (l1.length : Int)) = true:=beq_iff_eq.mpr c3
  have c3b1 : ((l0.length : Int) != (l1.length : Int)) = false:=bne_eq_false_iff_eq.mpr c3
  have c3b2 : (l0.length == l1.length) = true:=by first | simpa using c3 | (simp at c3 ⊢; omega)
  clear c3
  have H':=Aside0.mk H
  clear H
  go_enter Tryd.func50,Tryd.ntmps50
  go_wp2
  repeat (go_quiet (fail); try go_wp2)
  go_loopg [5] k (fun kq v5 w' => ∃ (x5_1 : Int),v5 = .int .i64 x5_1 ∧ Aside0 (counterpaneref05_Same.l0 kq l0 l1 x5_1 = some r) ∧ Aside0 (kq ≤ k) ∧ Drawn0 w w')
  case atStart => exact ⟨(0),(by first | rfl | (simp; done) | (simp [*]; done)),H',⟨Nat.le_refl _⟩,by repeat (first | exact Drawn0.refl _ | apply Drawn0.step)⟩
  case round =>
   clear H'
   try clear c1
   try clear p2
   try clear c3
   try clear c3b0
   try clear c3b1
   try clear c3b2
   obtain ⟨x5_1,rfl,HA,HK1,⟨m1,rfl⟩⟩:=hrel
   cases gk with
   | zero => exact absurd HA.out (by simp [counterpaneref05_Same.l0])
   | succ k1 =>
    have H:=HA.out
    clear HA
    simp only [counterpaneref05_Same.l0] at H
    by_cases c4 : x5_1 < (l0.length : Int)
    ·rw [if_pos c4] at H
     have c4b0 : decide (x5_1 < (l0.length : Int)) = true:=decide_eq_true c4
     clear c4
     by_cases c5 : 0 ≤ x5_1
     ·rw [if_pos c5] at H
      have c5b0 : decide (0 ≤ x5_1) = true:=decide_eq_true c5
      clear c5
      by_cases c6 : x5_1 < (l1.length : Int)
      ·rw [if_pos c6] at H
       have c6b0 : decide (x5_1 < (l1.length : Int)) = true:=decide_eq_true c6
       clear c6
       by_cases c7 : (rdOf ByteArray.empty l0 x5_1).toList = (rdOf ByteArray.empty l1 x5_1).toList
       ·rw [if_pos c7] at H
        have c7b0 : ((rdOf ByteArray.empty l0 x5_1).toList == (rdOf ByteArray.empty l1 x5_1).toList) = true:=beq_iff_eq.mpr c7
        have c7b1 : ((rdOf ByteArray.empty l0 x5_1).toList != (rdOf ByteArray.empty l1 x5_1).toList) = false:=bne_eq_false_iff_eq.mpr c7
        clear c7
        have H':=Aside0.mk H
        clear H
        have p122 : 0 ≤ (x5_1 : Int):=of_decide_eq_true (by first | (with_reducible assumption) | assumption)
        have q122 : x5_1 < (l0.length : Int):=of_decide_eq_true (by first | (with_reducible assumption) | assumption)
        obtain ⟨ad122,e122,hx122_0⟩:=Kd.at_string HR0.out x5_1 p122 q122
        cases e122
        replace p122:=eq_true p122
        replace q122:=eq_true q122
        have p123 : 0 ≤ (x5_1 : Int):=of_decide_eq_true (by first | (with_reducible assumption) | assumption)
        have q123 : x5_1 < (l1.length : Int):=of_decide_eq_true (by first | (with_reducible assumption) | assumption)
        obtain ⟨ad123,e123,hx123_0⟩:=Kd.at_string HR1.out x5_1 p123 q123
        cases e123
        replace p123:=eq_true p123
        replace q123:=eq_true q123
        go_wp2
        repeat (go_quiet (fail); try go_wp2)
        go_roundg k1
        case measure => have:=HK1.out; omega
        case rel => exact ⟨(wrap64 (x5_1 + 1)),(by first | rfl | (simp; done) | (simp [*]; done)),H',⟨by have:=HK1.out; omega⟩,by repeat (first | exact Drawn0.refl _ | apply Drawn0.step)⟩
       ·rw [if_neg c7] at H
        have c7b0 : ((rdOf ByteArray.empty l0 x5_1).toList == (rdOf ByteArray.empty l1 x5_1).toList) = false:=beq_eq_false_iff_ne.mpr c7
        have c7b1 : ((rdOf ByteArray.empty l0 x5_1).toList != (rdOf ByteArray.empty l1 x5_1).toList) = true:=bne_iff_ne.mpr c7
        obtain rfl:=Option.some.inj H
        have p122 : 0 ≤ (x5_1 : Int):=of_decide_eq_true (by first | (with_reducible assumption) | assumption)
        have q122 : x5_1 < (l0.length : Int):=of_decide_eq_true (by first | (with_reducible assumption) | assumption)
        obtain ⟨ad122,e122,hx122_0⟩:=Kd.at_string HR0.out x5_1 p122 q122
        cases e122
        replace p122:=eq_true p122
        replace q122:=eq_true q122
        have p123 : 0 ≤ (x5_1 : Int):=of_decide_eq_true (by first | (with_reducible assumption) | assumption)
        have q123 : x5_1 < (l1.length : Int):=of_decide_eq_true (by first | (with_reducible assumption) | assumption)
        obtain ⟨ad123,e123,hx123_0⟩:=Kd.at_string HR1.out x5_1 p123 q123
        cases e123
        replace p123:=eq_true p123
        replace q123:=eq_true q123
        go_wp2
        repeat (go_quiet (fail); try go_wp2)
        go_ret
        exact ⟨by first | rfl | (simp; done) | (simp [*]; done),by repeat (first | exact Drawn0.refl _ | apply Drawn0.step)⟩
      ·rw [if_neg c6] at H
       exact absurd H (by simp)
     ·rw [if_neg c5] at H
      exact absurd H (by simp)
    ·rw [if_neg c4] at H
     have c4b0 : decide (x5_1 < (l0.length : Int)) = false:=decide_eq_false c4
     clear c4
     obtain rfl:=Option.some.inj H
     go_wp2
     repeat (go_quiet (fail); try go_wp2)
     go_ret
     exact ⟨by first | rfl | (simp; done) | (simp [*]; done),by repeat (first | exact Drawn0.refl _ | apply Drawn0.step)⟩
 ·rw [if_neg c3] at H
  have c3b0 : ((l0.length : Int) == (l1.length : Int)) = false:=beq_eq_false_iff_ne.mpr c3
  have c3b1 : ((l0.length : Int) != (l1.length : Int)) = true:=bne_iff_ne.mpr c3
  have c3b2 : (l0.length == l1.length) = false:=by first | simpa using c3 | (simp at c3 ⊢; omega)
  obtain rfl:=Option.some.inj H
  go_enter Tryd.func50,Tryd.ntmps50
  go_wp2
  repeat (go_quiet (fail); try go_wp2)
  go_ret
  exact ⟨by first | rfl | (simp; done) | (simp [*]; done),by repeat (first | exact Drawn0.refl _ | apply Drawn0.step)⟩

/-! ### counterpaneref08_Same: function 20 -/
def counterpaneref08_Same.f (k : Nat) (a0_0 : Int) (a0_1 : ByteArray) (a0_2 : ByteArray) (a0_3 : ByteArray) (a0_4 : Int) (l0_5 : List ByteArray) (l0_6 : List ByteArray) (a1_0 : Int) (a1_1 : ByteArray) (a1_2 : ByteArray) (a1_3 : ByteArray) (a1_4 : Int) (l1_5 : List ByteArray) (l1_6 : List ByteArray) : Option (Bool):=if a0_0 = a1_0 then (if a0_1.toList = a1_1.toList then (if a0_2.toList = a1_2.toList then (if a0_3.toList = a1_3.toList then (if a0_4 = a1_4 then ((counterpaneref05_Same.f k l0_5 l1_5).bind fun t126 => (if t126 = true then ((counterpaneref05_Same.f k l0_6 l1_6).bind fun t127 => (some t127)) else (some false))) else (some false)) else (some false)) else (some false)) else (some false)) else (some false)
theorem counterpaneref08_Same.mono : ∀ a0 a1 a2 a3 a4 a5 a6 a7 a8 a9 a10 a11 a12 a13 k,LeO (counterpaneref08_Same.f k a0 a1 a2 a3 a4 a5 a6 a7 a8 a9 a10 a11 a12 a13) (counterpaneref08_Same.f (k + 1) a0 a1 a2 a3 a4 a5 a6 a7 a8 a9 a10 a11 a12 a13):=by
 intro a0 a1 a2 a3 a4 a5 a6 a7 a8 a9 a10 a11 a12 a13 k
 unfold counterpaneref08_Same.f
 repeat' first
   | (with_reducible exact counterpaneref05_Same.mono _ _ _)
   | (with_reducible exact LeO.refl _)
   | (with_reducible exact LeO.none _)
   | (with_reducible refine LeO.ite ?_ ?_)
   | (with_reducible refine LeO.bind ?_ (fun _ => ?_))
   | exact counterpaneref05_Same.mono _ _ _
   | exact LeO.none _
   | refine LeO.ite ?_ ?_
   | refine LeO.bind ?_ (fun _ => ?_)
set_option maxHeartbeats 8000000 in
set_option maxRecDepth 100000 in
theorem counterpaneref08_Same.calls (k : Nat) (a0_0 : Int) (a0_1 : ByteArray) (a0_2 : ByteArray) (a0_3 : ByteArray) (a0_4 : Int) (A0_5 : Option Addr) (c0_5 : Nat) (l0_5 : List ByteArray) (A0_6 : Option Addr) (c0_6 : Nat) (l0_6 : List ByteArray) (a1_0 : Int) (a1_1 : ByteArray) (a1_2 : ByteArray) (a1_3 : ByteArray) (a1_4 : Int) (A1_5 : Option Addr) (c1_5 : Nat) (l1_5 : List ByteArray) (A1_6 : Option Addr) (c1_6 : Nat) (l1_6 : List ByteArray) (r : Bool) (w : World) (hr0_5 : Kd.C Kd.string w A0_5 l0_5.length l0_5) (hc0_5 : l0_5.length ≤ c0_5) (hr0_6 : Kd.C Kd.string w A0_6 l0_6.length l0_6) (hc0_6 : l0_6.length ≤ c0_6) (hr1_5 : Kd.C Kd.string w A1_5 l1_5.length l1_5) (hc1_5 : l1_5.length ≤ c1_5) (hr1_6 : Kd.C Kd.string w A1_6 l1_6.length l1_6) (hc1_6 : l1_6.length ≤ c1_6) (h : counterpaneref08_Same.f k a0_0 a0_1 a0_2 a0_3 a0_4 l0_5 l0_6 a1_0 a1_1 a1_2 a1_3 a1_4 l1_5 l1_6 = some r) :
  Calls Tryd.prog 20 #[.agg #[.int .i64 a0_0,.string a0_1,.string a0_2,.string a0_3,.int .i64 a0_4,.slice A0_5 l0_5.length c0_5,.slice A0_6 l0_6.length c0_6],.agg #[.int .i64 a1_0,.string a1_1,.string a1_2,.string a1_3,.int .i64 a1_4,.slice A1_5 l1_5.length c1_5,.slice A1_6 l1_6.length c1_6]] w fun e w' => e = .returned (.bool r) ∧ Below w.heap.size w w':=by
 have hu24:=Tryd.underlying24
 have HR0_5:=Aside0.mk hr0_5
 have HC0_5:=Aside0.mk hc0_5
 clear hr0_5 hc0_5
 have HR0_6:=Aside0.mk hr0_6
 have HC0_6:=Aside0.mk hc0_6
 clear hr0_6 hc0_6
 have HR1_5:=Aside0.mk hr1_5
 have HC1_5:=Aside0.mk hc1_5
 clear hr1_5 hc1_5
 have HR1_6:=Aside0.mk hr1_6
 have HC1_6:=Aside0.mk hc1_6
 clear hr1_6 hc1_6
 have HB:=Aside0.mk (Below.refl w.heap.size w)
 have H : (if a0_0 = a1_0 then (if a0_1.toList = a1_1.toList then (if a0_2.toList = a1_2.toList then (if a0_3.toList = a1_3.toList then (if a0_4 = a1_4 then ((counterpaneref05_Same.f k l0_5 l1_5).bind fun t126 => (if t126 = true then ((counterpaneref05_Same.f k l0_6 l1_6).bind fun t127 => (some t127)) else (some false))) else (some false)) else (some false)) else (some false)) else (some false)) else (some false)) = some r:=h
 clear h
 by_cases c3 : a0_0 = a1_0
 ·rw [if_pos c3] at H
  have c3b0 : (a0_0 == a1_0) = true:=beq_iff_eq.mpr c3
  have c3b1 : (a0_0 != a1_0) = false:=bne_eq_false_iff_eq.mpr c3
  clear c3
  by_cases c4 : a0_1.toList = a1_1.toList
  ·rw [if_pos c4] at H
   have c4b0 : (a0_1.toList == a1_1.toList) = true:=beq_iff_eq.mpr c4
   have c4b1 : (a0_1.toList != a1_1.toList) = false:=bne_eq_false_iff_eq.mpr c4
   clear c4
   by_cases c5 : a0_2.toList = a1_2.toList
   ·rw [if_pos c5] at H
    have c5b0 : (a0_2.toList == a1_2.toList) = true:=beq_iff_eq.mpr c5
    have c5b1 : (a0_2.toList != a1_2.toList) = false:=bne_eq_false_iff_eq.mpr c5
    clear c5
    by_cases c6 : a0_3.toList = a1_3.toList
    ·rw [if_pos c6] at H
     have c6b0 : (a0_3.toList == a1_3.toList) = true:=beq_iff_eq.mpr c6
     have c6b1 : (a0_3.toList != a1_3.toList) = false:=bne_eq_false_iff_eq.mpr c6
     clear c6
     by_cases c7 : a0_4 = a1_4
     ·rw [if_pos c7] at H
      have c7b0 : (a0_4 == a1_4) = true:=beq_iff_eq.mpr c7
      have c7b1 : (a0_4 != a1_4) = false:=bne_eq_false_iff_eq.mpr c7
      clear c7
      replace H:=Option.bind_eq_some_iff.mp H
      obtain ⟨t126,A80,H⟩:=H
      replace H : (if t126 = true then ((counterpaneref05_Same.f k l0_6 l1_6).bind fun t127 => (some t127)) else (some false)) = some r:=H
      have A8:=Aside0.mk A80
      clear A80
      by_cases c9 : t126 = true
      ·subst c9
       have H1 : ((counterpaneref05_Same.f k l0_6 l1_6).bind fun t127 => (some t127)) = some r:=by rw [if_pos rfl] at H; exact H
       clear H
       have H:=H1
       clear H1
       replace H:=Option.bind_eq_some_iff.mp H
       obtain ⟨t127,A100,H⟩:=H
       replace H : (some t127) = some r:=H
       have A10:=Aside0.mk A100
       clear A100
       obtain rfl:=Option.some.inj H
       go_enter Tryd.func20,Tryd.ntmps20
       go_wp2_with (first | ((with_reducible refine gate_dst (N:=2) rfl ?_); refine box_event ?hg (N:=2) ?hd (cs:=#[.int .i64 a0_0,.string a0_1,.string a0_2,.string a0_3,.int .i64 a0_4,.slice A0_5 l0_5.length c0_5,.slice A0_6 l0_6.length c0_6]) (t:=24) ?hr ?_; (case hd => rfl); (case hg => rfl); (case hr => first | (go_simp; done) | (go_simp; rfl)); intro gb124 hg w11 hbox hb; have n0_:=Aside0.mk (below_step (by repeat (first | (with_reducible first | exact HB.out | apply below_alloc | apply pw_below_drewN | apply below_drew1) | exact HB.out)) hb); have n1_:=Aside0.mk (hbox); have n2_:=Aside0.mk ((by rw [hg]; exact (below_size (by repeat (first | (with_reducible first | exact HB.out | apply below_alloc | apply pw_below_drewN | apply below_drew1) | exact HB.out))) : w.heap.size ≤ gb124)); have n3_:=Aside0.mk ((by rw [hg]; exact (below_size (by repeat (first | (with_reducible first | exact HB.out | apply below_alloc | apply pw_below_drewN | apply below_drew1) | exact HB.out))) : w.heap.size ≤ gb124)); clear HB; have HB:=n0_; have BK124:=n1_; have GW124:=n2_; have GE124:=n3_; clear n0_ n1_ n2_ n3_; clear hb hbox hg) | ((with_reducible refine gate_dst (N:=3) rfl ?_); refine box_event ?hg (N:=3) ?hd (cs:=#[.int .i64 a1_0,.string a1_1,.string a1_2,.string a1_3,.int .i64 a1_4,.slice A1_5 l1_5.length c1_5,.slice A1_6 l1_6.length c1_6]) (t:=24) ?hr ?_; (case hd => rfl); (case hg => rfl); (case hr => first | (go_simp; done) | (go_simp; rfl)); intro gb125 hg w12 hbox hb; have n0_:=Aside0.mk (blk_below (g:=gb124) (o:=.cells #[.int .i64 a0_0,.string a0_1,.string a0_2,.string a0_3,.int .i64 a0_4,.slice A0_5 l0_5.length c0_5,.slice A0_6 l0_6.length c0_6] 24 (0,0)) (by (with_reducible repeat (first | refine blk_drewN ?_ _ | refine blk_drew ?_ | refine blk_alloc ?_ _)); exact BK124.out) hb); have n1_:=Aside0.mk (below_step (by repeat (first | (with_reducible first | exact HB.out | apply below_alloc | apply pw_below_drewN | apply below_drew1 | refine below_set ?_ GE124.out) | exact HB.out)) hb); have n2_:=Aside0.mk (hbox); have n3_:=Aside0.mk ((by rw [hg]; exact (below_size (by repeat (first | (with_reducible first | exact HB.out | apply below_alloc | apply pw_below_drewN | apply below_drew1 | refine below_set ?_ GE124.out) | exact HB.out))) : w.heap.size ≤ gb125)); have n4_:=Aside0.mk ((by rw [hg]; exact (below_size (by repeat (first | (with_reducible first | exact HB.out | apply below_alloc | apply pw_below_drewN | apply below_drew1 | refine below_set ?_ GE124.out) | exact HB.out))) : w.heap.size ≤ gb125)); have n5_:=Aside0.mk ((by rw [hg]; exact Nat.ne_of_lt (blk_lt (g:=gb124) (o:=.cells #[.int .i64 a0_0,.string a0_1,.string a0_2,.string a0_3,.int .i64 a0_4,.slice A0_5 l0_5.length c0_5,.slice A0_6 l0_6.length c0_6] 24 (0,0)) (by (with_reducible repeat (first | refine blk_drewN ?_ _ | refine blk_drew ?_ | refine blk_alloc ?_ _)); exact BK124.out)) : gb124 ≠ gb125)); have n6_:=Aside0.mk ((by rw [hg]; exact Nat.ne_of_gt (blk_lt (g:=gb124) (o:=.cells #[.int .i64 a0_0,.string a0_1,.string a0_2,.string a0_3,.int .i64 a0_4,.slice A0_5 l0_5.length c0_5,.slice A0_6 l0_6.length c0_6] 24 (0,0)) (by (with_reducible repeat (first | refine blk_drewN ?_ _ | refine blk_drew ?_ | refine blk_alloc ?_ _)); exact BK124.out)) : gb125 ≠ gb124)); clear BK124; clear HB; have BK124:=n0_; have HB:=n1_; have BK125:=n2_; have GW125:=n3_; have GE125:=n4_; have NB124_125:=n5_; have NB125_124:=n6_; clear n0_ n1_ n2_ n3_ n4_ n5_ n6_; clear hb hbox hg; have hnb13:=NB124_125.out; have hnc13:=NB125_124.out; have hcz14_0 : w12.cell? ⟨gb124,0,none⟩ = some (.int .i64 a0_0):=(blk_cell BK124.out 0).trans rfl; have hcz14_1 : w12.cell? ⟨gb124,1,none⟩ = some (.string a0_1):=(blk_cell BK124.out 1).trans rfl; have hcz14_2 : w12.cell? ⟨gb124,2,none⟩ = some (.string a0_2):=(blk_cell BK124.out 2).trans rfl; have hcz14_3 : w12.cell? ⟨gb124,3,none⟩ = some (.string a0_3):=(blk_cell BK124.out 3).trans rfl; have hcz14_4 : w12.cell? ⟨gb124,4,none⟩ = some (.int .i64 a0_4):=(blk_cell BK124.out 4).trans rfl; have hcz14_5 : w12.cell? ⟨gb124,5,none⟩ = some (.slice A0_5 l0_5.length c0_5):=(blk_cell BK124.out 5).trans rfl; have hcz14_6 : w12.cell? ⟨gb124,6,none⟩ = some (.slice A0_6 l0_6.length c0_6):=(blk_cell BK124.out 6).trans rfl; have hfz14_0:=blk_frozen BK124.out 0; have hfz14_1:=blk_frozen BK124.out 1; have hfz14_2:=blk_frozen BK124.out 2; have hfz14_3:=blk_frozen BK124.out 3; have hfz14_4:=blk_frozen BK124.out 4; have hfz14_5:=blk_frozen BK124.out 5; have hfz14_6:=blk_frozen BK124.out 6; have hcz15_0 : w12.cell? ⟨gb125,0,none⟩ = some (.int .i64 a1_0):=(blk_cell BK125.out 0).trans rfl; have hcz15_1 : w12.cell? ⟨gb125,1,none⟩ = some (.string a1_1):=(blk_cell BK125.out 1).trans rfl; have hcz15_2 : w12.cell? ⟨gb125,2,none⟩ = some (.string a1_2):=(blk_cell BK125.out 2).trans rfl; have hcz15_3 : w12.cell? ⟨gb125,3,none⟩ = some (.string a1_3):=(blk_cell BK125.out 3).trans rfl; have hcz15_4 : w12.cell? ⟨gb125,4,none⟩ = some (.int .i64 a1_4):=(blk_cell BK125.out 4).trans rfl; have hcz15_5 : w12.cell? ⟨gb125,5,none⟩ = some (.slice A1_5 l1_5.length c1_5):=(blk_cell BK125.out 5).trans rfl; have hcz15_6 : w12.cell? ⟨gb125,6,none⟩ = some (.slice A1_6 l1_6.length c1_6):=(blk_cell BK125.out 6).trans rfl; have hfz15_0:=blk_frozen BK125.out 0; have hfz15_1:=blk_frozen BK125.out 1; have hfz15_2:=blk_frozen BK125.out 2; have hfz15_3:=blk_frozen BK125.out 3; have hfz15_4:=blk_frozen BK125.out 4; have hfz15_5:=blk_frozen BK125.out 5; have hfz15_6:=blk_frozen BK125.out 6) | (go_at_call 50; (with_reducible refine (counterpaneref05_Same.calls k _ _ l0_5 _ _ l1_5 true _ ?side1 ?side2 ?side3 ?side4 A8.out).mono ?_); (case side1 => repeat (first | exact (Kd.C_below HR0_5.out HB.out) | (with_reducible refine Kd.C_alloc ?_ _) | (with_reducible refine Kd.C_drewN ?_ _) | (with_reducible refine Kd.C_drew ?_))); (case side2 => exact HC0_5.out); (case side3 => repeat (first | exact (Kd.C_below HR1_5.out HB.out) | (with_reducible refine Kd.C_alloc ?_ _) | (with_reducible refine Kd.C_drewN ?_ _) | (with_reducible refine Kd.C_drew ?_))); (case side4 => exact HC1_5.out); rintro e w' ⟨rfl,⟨nd,rfl⟩⟩) | (go_at_call 50; (with_reducible refine (counterpaneref05_Same.calls k _ _ l0_6 _ _ l1_6 t127 _ ?side1 ?side2 ?side3 ?side4 A10.out).mono ?_); (case side1 => repeat (first | exact (Kd.C_below HR0_6.out (by repeat (first | (with_reducible first | exact HB.out | apply below_alloc | apply pw_below_drewN | apply below_drew1 | refine below_set ?_ GE124.out | refine below_set ?_ GE125.out) | exact HB.out))) | (with_reducible refine Kd.C_alloc ?_ _) | (with_reducible refine Kd.C_drewN ?_ _) | (with_reducible refine Kd.C_drew ?_))); (case side2 => exact HC0_6.out); (case side3 => repeat (first | exact (Kd.C_below HR1_6.out (by repeat (first | (with_reducible first | exact HB.out | apply below_alloc | apply pw_below_drewN | apply below_drew1 | refine below_set ?_ GE124.out | refine below_set ?_ GE125.out) | exact HB.out))) | (with_reducible refine Kd.C_alloc ?_ _) | (with_reducible refine Kd.C_drewN ?_ _) | (with_reducible refine Kd.C_drew ?_))); (case side4 => exact HC1_6.out); rintro e w' ⟨rfl,⟨nd,rfl⟩⟩))
       go_ret
       exact ⟨by first | rfl | (simp [errW_none,errW_some] <;> rfl) | (simp [*,errW_none,errW_some] <;> rfl),by repeat (first | (with_reducible first | exact HB.out | apply below_alloc | apply pw_below_drewN | apply below_drew1 | refine below_set ?_ GE124.out | refine below_set ?_ GE125.out) | exact HB.out)⟩
      ·replace c9:=Bool.eq_false_iff.mpr c9
       subst c9
       have H1 : (some false) = some r:=by rw [if_neg (show ¬ (false = true) by decide)] at H; exact H
       clear H
       have H:=H1
       clear H1
       obtain rfl:=Option.some.inj H
       go_enter Tryd.func20,Tryd.ntmps20
       go_wp2_with (first | ((with_reducible refine gate_dst (N:=2) rfl ?_); refine box_event ?hg (N:=2) ?hd (cs:=#[.int .i64 a0_0,.string a0_1,.string a0_2,.string a0_3,.int .i64 a0_4,.slice A0_5 l0_5.length c0_5,.slice A0_6 l0_6.length c0_6]) (t:=24) ?hr ?_; (case hd => rfl); (case hg => rfl); (case hr => first | (go_simp; done) | (go_simp; rfl)); intro gb124 hg w16 hbox hb; have n0_:=Aside0.mk (below_step (by repeat (first | (with_reducible first | exact HB.out | apply below_alloc | apply pw_below_drewN | apply below_drew1) | exact HB.out)) hb); have n1_:=Aside0.mk (hbox); have n2_:=Aside0.mk ((by rw [hg]; exact (below_size (by repeat (first | (with_reducible first | exact HB.out | apply below_alloc | apply pw_below_drewN | apply below_drew1) | exact HB.out))) : w.heap.size ≤ gb124)); have n3_:=Aside0.mk ((by rw [hg]; exact (below_size (by repeat (first | (with_reducible first | exact HB.out | apply below_alloc | apply pw_below_drewN | apply below_drew1) | exact HB.out))) : w.heap.size ≤ gb124)); clear HB; have HB:=n0_; have BK124:=n1_; have GW124:=n2_; have GE124:=n3_; clear n0_ n1_ n2_ n3_; clear hb hbox hg) | ((with_reducible refine gate_dst (N:=3) rfl ?_); refine box_event ?hg (N:=3) ?hd (cs:=#[.int .i64 a1_0,.string a1_1,.string a1_2,.string a1_3,.int .i64 a1_4,.slice A1_5 l1_5.length c1_5,.slice A1_6 l1_6.length c1_6]) (t:=24) ?hr ?_; (case hd => rfl); (case hg => rfl); (case hr => first | (go_simp; done) | (go_simp; rfl)); intro gb125 hg w17 hbox hb; have n0_:=Aside0.mk (blk_below (g:=gb124) (o:=.cells #[.int .i64 a0_0,.string a0_1,.string a0_2,.string a0_3,.int .i64 a0_4,.slice A0_5 l0_5.length c0_5,.slice A0_6 l0_6.length c0_6] 24 (0,0)) (by (with_reducible repeat (first | refine blk_drewN ?_ _ | refine blk_drew ?_ | refine blk_alloc ?_ _)); exact BK124.out) hb); have n1_:=Aside0.mk (below_step (by repeat (first | (with_reducible first | exact HB.out | apply below_alloc | apply pw_below_drewN | apply below_drew1 | refine below_set ?_ GE124.out) | exact HB.out)) hb); have n2_:=Aside0.mk (hbox); have n3_:=Aside0.mk ((by rw [hg]; exact (below_size (by repeat (first | (with_reducible first | exact HB.out | apply below_alloc | apply pw_below_drewN | apply below_drew1 | refine below_set ?_ GE124.out) | exact HB.out))) : w.heap.size ≤ gb125)); have n4_:=Aside0.mk ((by rw [hg]; exact (below_size (by repeat (first | (with_reducible first | exact HB.out | apply below_alloc | apply pw_below_drewN | apply below_drew1 | refine below_set ?_ GE124.out) | exact HB.out))) : w.heap.size ≤ gb125)); have n5_:=Aside0.mk ((by rw [hg]; exact Nat.ne_of_lt (blk_lt (g:=gb124) (o:=.cells #[.int .i64 a0_0,.string a0_1,.string a0_2,.string a0_3,.int .i64 a0_4,.slice A0_5 l0_5.length c0_5,.slice A0_6 l0_6.length c0_6] 24 (0,0)) (by (with_reducible repeat (first | refine blk_drewN ?_ _ | refine blk_drew ?_ | refine blk_alloc ?_ _)); exact BK124.out)) : gb124 ≠ gb125)); have n6_:=Aside0.mk ((by rw [hg]; exact Nat.ne_of_gt (blk_lt (g:=gb124) (o:=.cells #[.int .i64 a0_0,.string a0_1,.string a0_2,.string a0_3,.int .i64 a0_4,.slice A0_5 l0_5.length c0_5,.slice A0_6 l0_6.length c0_6] 24 (0,0)) (by (with_reducible repeat (first | refine blk_drewN ?_ _ | refine blk_drew ?_ | refine blk_alloc ?_ _)); exact BK124.out)) : gb125 ≠ gb124)); clear BK124; clear HB; have BK124:=n0_; have HB:=n1_; have BK125:=n2_; have GW125:=n3_; have GE125:=n4_; have NB124_125:=n5_; have NB125_124:=n6_; clear n0_ n1_ n2_ n3_ n4_ n5_ n6_; clear hb hbox hg; have hnb18:=NB124_125.out; have hnc18:=NB125_124.out; have hcz19_0 : w17.cell? ⟨gb124,0,none⟩ = some (.int .i64 a0_0):=(blk_cell BK124.out 0).trans rfl; have hcz19_1 : w17.cell? ⟨gb124,1,none⟩ = some (.string a0_1):=(blk_cell BK124.out 1).trans rfl; have hcz19_2 : w17.cell? ⟨gb124,2,none⟩ = some (.string a0_2):=(blk_cell BK124.out 2).trans rfl; have hcz19_3 : w17.cell? ⟨gb124,3,none⟩ = some (.string a0_3):=(blk_cell BK124.out 3).trans rfl; have hcz19_4 : w17.cell? ⟨gb124,4,none⟩ = some (.int .i64 a0_4):=(blk_cell BK124.out 4).trans rfl; have hcz19_5 : w17.cell? ⟨gb124,5,none⟩ = some (.slice A0_5 l0_5.length c0_5):=(blk_cell BK124.out 5).trans rfl; have hcz19_6 : w17.cell? ⟨gb124,6,none⟩ = some (.slice A0_6 l0_6.length c0_6):=(blk_cell BK124.out 6).trans rfl; have hfz19_0:=blk_frozen BK124.out 0; have hfz19_1:=blk_frozen BK124.out 1; have hfz19_2:=blk_frozen BK124.out 2; have hfz19_3:=blk_frozen BK124.out 3; have hfz19_4:=blk_frozen BK124.out 4; have hfz19_5:=blk_frozen BK124.out 5; have hfz19_6:=blk_frozen BK124.out 6; have hcz20_0 : w17.cell? ⟨gb125,0,none⟩ = some (.int .i64 a1_0):=(blk_cell BK125.out 0).trans rfl; have hcz20_1 : w17.cell? ⟨gb125,1,none⟩ = some (.string a1_1):=(blk_cell BK125.out 1).trans rfl; have hcz20_2 : w17.cell? ⟨gb125,2,none⟩ = some (.string a1_2):=(blk_cell BK125.out 2).trans rfl; have hcz20_3 : w17.cell? ⟨gb125,3,none⟩ = some (.string a1_3):=(blk_cell BK125.out 3).trans rfl; have hcz20_4 : w17.cell? ⟨gb125,4,none⟩ = some (.int .i64 a1_4):=(blk_cell BK125.out 4).trans rfl; have hcz20_5 : w17.cell? ⟨gb125,5,none⟩ = some (.slice A1_5 l1_5.length c1_5):=(blk_cell BK125.out 5).trans rfl; have hcz20_6 : w17.cell? ⟨gb125,6,none⟩ = some (.slice A1_6 l1_6.length c1_6):=(blk_cell BK125.out 6).trans rfl; have hfz20_0:=blk_frozen BK125.out 0; have hfz20_1:=blk_frozen BK125.out 1; have hfz20_2:=blk_frozen BK125.out 2; have hfz20_3:=blk_frozen BK125.out 3; have hfz20_4:=blk_frozen BK125.out 4; have hfz20_5:=blk_frozen BK125.out 5; have hfz20_6:=blk_frozen BK125.out 6) | (go_at_call 50; (with_reducible refine (counterpaneref05_Same.calls k _ _ l0_5 _ _ l1_5 false _ ?side1 ?side2 ?side3 ?side4 A8.out).mono ?_); (case side1 => repeat (first | exact (Kd.C_below HR0_5.out HB.out) | (with_reducible refine Kd.C_alloc ?_ _) | (with_reducible refine Kd.C_drewN ?_ _) | (with_reducible refine Kd.C_drew ?_))); (case side2 => exact HC0_5.out); (case side3 => repeat (first | exact (Kd.C_below HR1_5.out HB.out) | (with_reducible refine Kd.C_alloc ?_ _) | (with_reducible refine Kd.C_drewN ?_ _) | (with_reducible refine Kd.C_drew ?_))); (case side4 => exact HC1_5.out); rintro e w' ⟨rfl,⟨nd,rfl⟩⟩))
       go_ret
       exact ⟨by first | rfl | (simp [errW_none,errW_some] <;> rfl) | (simp [*,errW_none,errW_some] <;> rfl),by repeat (first | (with_reducible first | exact HB.out | apply below_alloc | apply pw_below_drewN | apply below_drew1 | refine below_set ?_ GE124.out | refine below_set ?_ GE125.out) | exact HB.out)⟩
     ·rw [if_neg c7] at H
      have c7b0 : (a0_4 == a1_4) = false:=beq_eq_false_iff_ne.mpr c7
      have c7b1 : (a0_4 != a1_4) = true:=bne_iff_ne.mpr c7
      obtain rfl:=Option.some.inj H
      go_enter Tryd.func20,Tryd.ntmps20
      go_wp2_with (first | ((with_reducible refine gate_dst (N:=2) rfl ?_); refine box_event ?hg (N:=2) ?hd (cs:=#[.int .i64 a0_0,.string a0_1,.string a0_2,.string a0_3,.int .i64 a0_4,.slice A0_5 l0_5.length c0_5,.slice A0_6 l0_6.length c0_6]) (t:=24) ?hr ?_; (case hd => rfl); (case hg => rfl); (case hr => first | (go_simp; done) | (go_simp; rfl)); intro gb124 hg w21 hbox hb; have n0_:=Aside0.mk (below_step (by repeat (first | (with_reducible first | exact HB.out | apply below_alloc | apply pw_below_drewN | apply below_drew1) | exact HB.out)) hb); have n1_:=Aside0.mk (hbox); have n2_:=Aside0.mk ((by rw [hg]; exact (below_size (by repeat (first | (with_reducible first | exact HB.out | apply below_alloc | apply pw_below_drewN | apply below_drew1) | exact HB.out))) : w.heap.size ≤ gb124)); have n3_:=Aside0.mk ((by rw [hg]; exact (below_size (by repeat (first | (with_reducible first | exact HB.out | apply below_alloc | apply pw_below_drewN | apply below_drew1) | exact HB.out))) : w.heap.size ≤ gb124)); clear HB; have HB:=n0_; have BK124:=n1_; have GW124:=n2_; have GE124:=n3_; clear n0_ n1_ n2_ n3_; clear hb hbox hg) | ((with_reducible refine gate_dst (N:=3) rfl ?_); refine box_event ?hg (N:=3) ?hd (cs:=#[.int .i64 a1_0,.string a1_1,.string a1_2,.string a1_3,.int .i64 a1_4,.slice A1_5 l1_5.length c1_5,.slice A1_6 l1_6.length c1_6]) (t:=24) ?hr ?_; (case hd => rfl); (case hg => rfl); (case hr => first | (go_simp; done) | (go_simp; rfl)); intro gb125 hg w22 hbox hb; have n0_:=Aside0.mk (blk_below (g:=gb124) (o:=.cells #[.int .i64 a0_0,.string a0_1,.string a0_2,.string a0_3,.int .i64 a0_4,.slice A0_5 l0_5.length c0_5,.slice A0_6 l0_6.length c0_6] 24 (0,0)) (by (with_reducible repeat (first | refine blk_drewN ?_ _ | refine blk_drew ?_ | refine blk_alloc ?_ _)); exact BK124.out) hb); have n1_:=Aside0.mk (below_step (by repeat (first | (with_reducible first | exact HB.out | apply below_alloc | apply pw_below_drewN | apply below_drew1 | refine below_set ?_ GE124.out) | exact HB.out)) hb); have n2_:=Aside0.mk (hbox); have n3_:=Aside0.mk ((by rw [hg]; exact (below_size (by repeat (first | (with_reducible first | exact HB.out | apply below_alloc | apply pw_below_drewN | apply below_drew1 | refine below_set ?_ GE124.out) | exact HB.out))) : w.heap.size ≤ gb125)); have n4_:=Aside0.mk ((by rw [hg]; exact (below_size (by repeat (first | (with_reducible first | exact HB.out | apply below_alloc | apply pw_below_drewN | apply below_drew1 | refine below_set ?_ GE124.out) | exact HB.out))) : w.heap.size ≤ gb125)); have n5_:=Aside0.mk ((by rw [hg]; exact Nat.ne_of_lt (blk_lt (g:=gb124) (o:=.cells #[.int .i64 a0_0,.string a0_1,.string a0_2,.string a0_3,.int .i64 a0_4,.slice A0_5 l0_5.length c0_5,.slice A0_6 l0_6.length c0_6] 24 (0,0)) (by (with_reducible repeat (first | refine blk_drewN ?_ _ | refine blk_drew ?_ | refine blk_alloc ?_ _)); exact BK124.out)) : gb124 ≠ gb125)); have n6_:=Aside0.mk ((by rw [hg]; exact Nat.ne_of_gt (blk_lt (g:=gb124) (o:=.cells #[.int .i64 a0_0,.string a0_1,.string a0_2,.string a0_3,.int .i64 a0_4,.slice A0_5 l0_5.length c0_5,.slice A0_6 l0_6.length c0_6] 24 (0,0)) (by (with_reducible repeat (first | refine blk_drewN ?_ _ | refine blk_drew ?_ | refine blk_alloc ?_ _)); exact BK124.out)) : gb125 ≠ gb124)); clear BK124; clear HB; have BK124:=n0_; have HB:=n1_; have BK125:=n2_; have GW125:=n3_; have GE125:=n4_; have NB124_125:=n5_; have NB125_124:=n6_; clear n0_ n1_ n2_ n3_ n4_ n5_ n6_; clear hb hbox hg; have hnb23:=NB124_125.out; have hnc23:=NB125_124.out; have hcz24_0 : w22.cell? ⟨gb124,0,none⟩ = some (.int .i64 a0_0):=(blk_cell BK124.out 0).trans rfl; have hcz24_1 : w22.cell? ⟨gb124,1,none⟩ = some (.string a0_1):=(blk_cell BK124.out 1).trans rfl; have hcz24_2 : w22.cell? ⟨gb124,2,none⟩ = some (.string a0_2):=(blk_cell BK124.out 2).trans rfl; have hcz24_3 : w22.cell? ⟨gb124,3,none⟩ = some (.string a0_3):=(blk_cell BK124.out 3).trans rfl; have hcz24_4 : w22.cell? ⟨gb124,4,none⟩ = some (.int .i64 a0_4):=(blk_cell BK124.out 4).trans rfl; have hcz24_5 : w22.cell? ⟨gb124,5,none⟩ = some (.slice A0_5 l0_5.length c0_5):=(blk_cell BK124.out 5).trans rfl; have hcz24_6 : w22.cell? ⟨gb124,6,none⟩ = some (.slice A0_6 l0_6.length c0_6):=(blk_cell BK124.out 6).trans rfl; have hfz24_0:=blk_frozen BK124.out 0; have hfz24_1:=blk_frozen BK124.out 1; have hfz24_2:=blk_frozen BK124.out 2; have hfz24_3:=blk_frozen BK124.out 3; have hfz24_4:=blk_frozen BK124.out 4; have hfz24_5:=blk_frozen BK124.out 5; have hfz24_6:=blk_frozen BK124.out 6; have hcz25_0 : w22.cell? ⟨gb125,0,none⟩ = some (.int .i64 a1_0):=(blk_cell BK125.out 0).trans rfl; have hcz25_1 : w22.cell? ⟨gb125,1,none⟩ = some (.string a1_1):=(blk_cell BK125.out 1).trans rfl; have hcz25_2 : w22.cell? ⟨gb125,2,none⟩ = some (.string a1_2):=(blk_cell BK125.out 2).trans rfl; have hcz25_3 : w22.cell? ⟨gb125,3,none⟩ = some (.string a1_3):=(blk_cell BK125.out 3).trans rfl; have hcz25_4 : w22.cell? ⟨gb125,4,none⟩ = some (.int .i64 a1_4):=(blk_cell BK125.out 4).trans rfl; have hcz25_5 : w22.cell? ⟨gb125,5,none⟩ = some (.slice A1_5 l1_5.length c1_5):=(blk_cell BK125.out 5).trans rfl; have hcz25_6 : w22.cell? ⟨gb125,6,none⟩ = some (.slice A1_6 l1_6.length c1_6):=(blk_cell BK125.out 6).trans rfl; have hfz25_0:=blk_frozen BK125.out 0; have hfz25_1:=blk_frozen BK125.out 1; have hfz25_2:=blk_frozen BK125.out 2; have hfz25_3:=blk_frozen BK125.out 3; have hfz25_4:=blk_frozen BK125.out 4; have hfz25_5:=blk_frozen BK125.out 5; have hfz25_6:=blk_frozen BK125.out 6))
      go_ret
      exact ⟨by first | rfl | (simp [errW_none,errW_some] <;> rfl) | (simp [*,errW_none,errW_some] <;> rfl),by repeat (first | (with_reducible first | exact HB.out | apply below_alloc | apply pw_below_drewN | apply below_drew1 | refine below_set ?_ GE124.out | refine below_set ?_ GE125.out) | exact HB.out)⟩
    ·rw [if_neg c6] at H
     have c6b0 : (a0_3.toList == a1_3.toList) = false:=beq_eq_false_iff_ne.mpr c6
     have c6b1 : (a0_3.toList != a1_3.toList) = true:=bne_iff_ne.mpr c6
     obtain rfl:=Option.some.inj H
     go_enter Tryd.func20,Tryd.ntmps20
     go_wp2_with (first | ((with_reducible refine gate_dst (N:=2) rfl ?_); refine box_event ?hg (N:=2) ?hd (cs:=#[.int .i64 a0_0,.string a0_1,.string a0_2,.string a0_3,.int .i64 a0_4,.slice A0_5 l0_5.length c0_5,.slice A0_6 l0_6.length c0_6]) (t:=24) ?hr ?_; (case hd => rfl); (case hg => rfl); (case hr => first | (go_simp; done) | (go_simp; rfl)); intro gb124 hg w26 hbox hb; have n0_:=Aside0.mk (below_step (by repeat (first | (with_reducible first | exact HB.out | apply below_alloc | apply pw_below_drewN | apply below_drew1) | exact HB.out)) hb); have n1_:=Aside0.mk (hbox); have n2_:=Aside0.mk ((by rw [hg]; exact (below_size (by repeat (first | (with_reducible first | exact HB.out | apply below_alloc | apply pw_below_drewN | apply below_drew1) | exact HB.out))) : w.heap.size ≤ gb124)); have n3_:=Aside0.mk ((by rw [hg]; exact (below_size (by repeat (first | (with_reducible first | exact HB.out | apply below_alloc | apply pw_below_drewN | apply below_drew1) | exact HB.out))) : w.heap.size ≤ gb124)); clear HB; have HB:=n0_; have BK124:=n1_; have GW124:=n2_; have GE124:=n3_; clear n0_ n1_ n2_ n3_; clear hb hbox hg) | ((with_reducible refine gate_dst (N:=3) rfl ?_); refine box_event ?hg (N:=3) ?hd (cs:=#[.int .i64 a1_0,.string a1_1,.string a1_2,.string a1_3,.int .i64 a1_4,.slice A1_5 l1_5.length c1_5,.slice A1_6 l1_6.length c1_6]) (t:=24) ?hr ?_; (case hd => rfl); (case hg => rfl); (case hr => first | (go_simp; done) | (go_simp; rfl)); intro gb125 hg w27 hbox hb; have n0_:=Aside0.mk (blk_below (g:=gb124) (o:=.cells #[.int .i64 a0_0,.string a0_1,.string a0_2,.string a0_3,.int .i64 a0_4,.slice A0_5 l0_5.length c0_5,.slice A0_6 l0_6.length c0_6] 24 (0,0)) (by (with_reducible repeat (first | refine blk_drewN ?_ _ | refine blk_drew ?_ | refine blk_alloc ?_ _)); exact BK124.out) hb); have n1_:=Aside0.mk (below_step (by repeat (first | (with_reducible first | exact HB.out | apply below_alloc | apply pw_below_drewN | apply below_drew1 | refine below_set ?_ GE124.out) | exact HB.out)) hb); have n2_:=Aside0.mk (hbox); have n3_:=Aside0.mk ((by rw [hg]; exact (below_size (by repeat (first | (with_reducible first | exact HB.out | apply below_alloc | apply pw_below_drewN | apply below_drew1 | refine below_set ?_ GE124.out) | exact HB.out))) : w.heap.size ≤ gb125)); have n4_:=Aside0.mk ((by rw [hg]; exact (below_size (by repeat (first | (with_reducible first | exact HB.out | apply below_alloc | apply pw_below_drewN | apply below_drew1 | refine below_set ?_ GE124.out) | exact HB.out))) : w.heap.size ≤ gb125)); have n5_:=Aside0.mk ((by rw [hg]; exact Nat.ne_of_lt (blk_lt (g:=gb124) (o:=.cells #[.int .i64 a0_0,.string a0_1,.string a0_2,.string a0_3,.int .i64 a0_4,.slice A0_5 l0_5.length c0_5,.slice A0_6 l0_6.length c0_6] 24 (0,0)) (by (with_reducible repeat (first | refine blk_drewN ?_ _ | refine blk_drew ?_ | refine blk_alloc ?_ _)); exact BK124.out)) : gb124 ≠ gb125)); have n6_:=Aside0.mk ((by rw [hg]; exact Nat.ne_of_gt (blk_lt (g:=gb124) (o:=.cells #[.int .i64 a0_0,.string a0_1,.string a0_2,.string a0_3,.int .i64 a0_4,.slice A0_5 l0_5.length c0_5,.slice A0_6 l0_6.length c0_6] 24 (0,0)) (by (with_reducible repeat (first | refine blk_drewN ?_ _ | refine blk_drew ?_ | refine blk_alloc ?_ _)); exact BK124.out)) : gb125 ≠ gb124)); clear BK124; clear HB; have BK124:=n0_; have HB:=n1_; have BK125:=n2_; have GW125:=n3_; have GE125:=n4_; have NB124_125:=n5_; have NB125_124:=n6_; clear n0_ n1_ n2_ n3_ n4_ n5_ n6_; clear hb hbox hg; have hnb28:=NB124_125.out; have hnc28:=NB125_124.out; have hcz29_0 : w27.cell? ⟨gb124,0,none⟩ = some (.int .i64 a0_0):=(blk_cell BK124.out 0).trans rfl; have hcz29_1 : w27.cell? ⟨gb124,1,none⟩ = some (.string a0_1):=(blk_cell BK124.out 1).trans rfl; have hcz29_2 : w27.cell? ⟨gb124,2,none⟩ = some (.string a0_2):=(blk_cell BK124.out 2).trans rfl; have hcz29_3 : w27.cell? ⟨gb124,3,none⟩ = some (.string a0_3):=(blk_cell BK124.out 3).trans rfl; have hcz29_4 : w27.cell? ⟨gb124,4,none⟩ = some (.int .i64 a0_4):=(blk_cell BK124.out 4).trans rfl; have hcz29_5 : w27.cell? ⟨gb124,5,none⟩ = some (.slice A0_5 l0_5.length c0_5):=(blk_cell BK124.out 5).trans rfl; have hcz29_6 : w27.cell? ⟨gb124,6,none⟩ = some (.slice A0_6 l0_6.length c0_6):=(blk_cell BK124.out 6).trans rfl; have hfz29_0:=blk_frozen BK124.out 0; have hfz29_1:=blk_frozen BK124.out 1; have hfz29_2:=blk_frozen BK124.out 2; have hfz29_3:=blk_frozen BK124.out 3; have hfz29_4:=blk_frozen BK124.out 4; have hfz29_5:=blk_frozen BK124.out 5; have hfz29_6:=blk_frozen BK124.out 6; have hcz30_0 : w27.cell? ⟨gb125,0,none⟩ = some (.int .i64 a1_0):=(blk_cell BK125.out 0).trans rfl; have hcz30_1 : w27.cell? ⟨gb125,1,none⟩ = some (.string a1_1):=(blk_cell BK125.out 1).trans rfl; have hcz30_2 : w27.cell? ⟨gb125,2,none⟩ = some (.string a1_2):=(blk_cell BK125.out 2).trans rfl; have hcz30_3 : w27.cell? ⟨gb125,3,none⟩ = some (.string a1_3):=(blk_cell BK125.out 3).trans rfl; have hcz30_4 : w27.cell? ⟨gb125,4,none⟩ = some (.int .i64 a1_4):=(blk_cell BK125.out 4).trans rfl; have hcz30_5 : w27.cell? ⟨gb125,5,none⟩ = some (.slice A1_5 l1_5.length c1_5):=(blk_cell BK125.out 5).trans rfl; have hcz30_6 : w27.cell? ⟨gb125,6,none⟩ = some (.slice A1_6 l1_6.length c1_6):=(blk_cell BK125.out 6).trans rfl; have hfz30_0:=blk_frozen BK125.out 0; have hfz30_1:=blk_frozen BK125.out 1; have hfz30_2:=blk_frozen BK125.out 2; have hfz30_3:=blk_frozen BK125.out 3; have hfz30_4:=blk_frozen BK125.out 4; have hfz30_5:=blk_frozen BK125.out 5; have hfz30_6:=blk_frozen BK125.out 6))
     go_ret
     exact ⟨by first | rfl | (simp [errW_none,errW_some] <;> rfl) | (simp [*,errW_none,errW_some] <;> rfl),by repeat (first | (with_reducible first | exact HB.out | apply below_alloc | apply pw_below_drewN | apply below_drew1 | refine below_set ?_ GE124.out | refine below_set ?_ GE125.out) | exact HB.out)⟩
   ·rw [if_neg c5] at H
    have c5b0 : (a0_2.toList == a1_2.toList) = false:=beq_eq_false_iff_ne.mpr c5
    have c5b1 : (a0_2.toList != a1_2.toList) = true:=bne_iff_ne.mpr c5
    obtain rfl:=Option.some.inj H
    go_enter Tryd.func20,Tryd.ntmps20
    go_wp2_with (first | ((with_reducible refine gate_dst (N:=2) rfl ?_); refine box_event ?hg (N:=2) ?hd (cs:=#[.int .i64 a0_0,.string a0_1,.string a0_2,.string a0_3,.int .i64 a0_4,.slice A0_5 l0_5.length c0_5,.slice A0_6 l0_6.length c0_6]) (t:=24) ?hr ?_; (case hd => rfl); (case hg => rfl); (case hr => first | (go_simp; done) | (go_simp; rfl)); intro gb124 hg w31 hbox hb; have n0_:=Aside0.mk (below_step (by repeat (first | (with_reducible first | exact HB.out | apply below_alloc | apply pw_below_drewN | apply below_drew1) | exact HB.out)) hb); have n1_:=Aside0.mk (hbox); have n2_:=Aside0.mk ((by rw [hg]; exact (below_size (by repeat (first | (with_reducible first | exact HB.out | apply below_alloc | apply pw_below_drewN | apply below_drew1) | exact HB.out))) : w.heap.size ≤ gb124)); have n3_:=Aside0.mk ((by rw [hg]; exact (below_size (by repeat (first | (with_reducible first | exact HB.out | apply below_alloc | apply pw_below_drewN | apply below_drew1) | exact HB.out))) : w.heap.size ≤ gb124)); clear HB; have HB:=n0_; have BK124:=n1_; have GW124:=n2_; have GE124:=n3_; clear n0_ n1_ n2_ n3_; clear hb hbox hg) | ((with_reducible refine gate_dst (N:=3) rfl ?_); refine box_event ?hg (N:=3) ?hd (cs:=#[.int .i64 a1_0,.string a1_1,.string a1_2,.string a1_3,.int .i64 a1_4,.slice A1_5 l1_5.length c1_5,.slice A1_6 l1_6.length c1_6]) (t:=24) ?hr ?_; (case hd => rfl); (case hg => rfl); (case hr => first | (go_simp; done) | (go_simp; rfl)); intro gb125 hg w32 hbox hb; have n0_:=Aside0.mk (blk_below (g:=gb124) (o:=.cells #[.int .i64 a0_0,.string a0_1,.string a0_2,.string a0_3,.int .i64 a0_4,.slice A0_5 l0_5.length c0_5,.slice A0_6 l0_6.length c0_6] 24 (0,0)) (by (with_reducible repeat (first | refine blk_drewN ?_ _ | refine blk_drew ?_ | refine blk_alloc ?_ _)); exact BK124.out) hb); have n1_:=Aside0.mk (below_step (by repeat (first | (with_reducible first | exact HB.out | apply below_alloc | apply pw_below_drewN | apply below_drew1 | refine below_set ?_ GE124.out) | exact HB.out)) hb); have n2_:=Aside0.mk (hbox); have n3_:=Aside0.mk ((by rw [hg]; exact (below_size (by repeat (first | (with_reducible first | exact HB.out | apply below_alloc | apply pw_below_drewN | apply below_drew1 | refine below_set ?_ GE124.out) | exact HB.out))) : w.heap.size ≤ gb125)); have n4_:=Aside0.mk ((by rw [hg]; exact (below_size (by repeat (first | (with_reducible first | exact HB.out | apply below_alloc | apply pw_below_drewN | apply below_drew1 | refine below_set ?_ GE124.out) | exact HB.out))) : w.heap.size ≤ gb125)); have n5_:=Aside0.mk ((by rw [hg]; exact Nat.ne_of_lt (blk_lt (g:=gb124) (o:=.cells #[.int .i64 a0_0,.string a0_1,.string a0_2,.string a0_3,.int .i64 a0_4,.slice A0_5 l0_5.length c0_5,.slice A0_6 l0_6.length c0_6] 24 (0,0)) (by (with_reducible repeat (first | refine blk_drewN ?_ _ | refine blk_drew ?_ | refine blk_alloc ?_ _)); exact BK124.out)) : gb124 ≠ gb125)); have n6_:=Aside0.mk ((by rw [hg]; exact Nat.ne_of_gt (blk_lt (g:=gb124) (o:=.cells #[.int .i64 a0_0,.string a0_1,.string a0_2,.string a0_3,.int .i64 a0_4,.slice A0_5 l0_5.length c0_5,.slice A0_6 l0_6.length c0_6] 24 (0,0)) (by (with_reducible repeat (first | refine blk_drewN ?_ _ | refine blk_drew ?_ | refine blk_alloc ?_ _)); exact BK124.out)) : gb125 ≠ gb124)); clear BK124; clear HB; have BK124:=n0_; have HB:=n1_; have BK125:=n2_; have GW125:=n3_; have GE125:=n4_; have NB124_125:=n5_; have NB125_124:=n6_; clear n0_ n1_ n2_ n3_ n4_ n5_ n6_; clear hb hbox hg; have hnb33:=NB124_125.out; have hnc33:=NB125_124.out; have hcz34_0 : w32.cell? ⟨gb124,0,none⟩ = some (.int .i64 a0_0):=(blk_cell BK124.out 0).trans rfl; have hcz34_1 : w32.cell? ⟨gb124,1,none⟩ = some (.string a0_1):=(blk_cell BK124.out 1).trans rfl; have hcz34_2 : w32.cell? ⟨gb124,2,none⟩ = some (.string a0_2):=(blk_cell BK124.out 2).trans rfl; have hcz34_3 : w32.cell? ⟨gb124,3,none⟩ = some (.string a0_3):=(blk_cell BK124.out 3).trans rfl; have hcz34_4 : w32.cell? ⟨gb124,4,none⟩ = some (.int .i64 a0_4):=(blk_cell BK124.out 4).trans rfl; have hcz34_5 : w32.cell? ⟨gb124,5,none⟩ = some (.slice A0_5 l0_5.length c0_5):=(blk_cell BK124.out 5).trans rfl; have hcz34_6 : w32.cell? ⟨gb124,6,none⟩ = some (.slice A0_6 l0_6.length c0_6):=(blk_cell BK124.out 6).trans rfl; have hfz34_0:=blk_frozen BK124.out 0; have hfz34_1:=blk_frozen BK124.out 1; have hfz34_2:=blk_frozen BK124.out 2; have hfz34_3:=blk_frozen BK124.out 3; have hfz34_4:=blk_frozen BK124.out 4; have hfz34_5:=blk_frozen BK124.out 5; have hfz34_6:=blk_frozen BK124.out 6; have hcz35_0 : w32.cell? ⟨gb125,0,none⟩ = some (.int .i64 a1_0):=(blk_cell BK125.out 0).trans rfl; have hcz35_1 : w32.cell? ⟨gb125,1,none⟩ = some (.string a1_1):=(blk_cell BK125.out 1).trans rfl; have hcz35_2 : w32.cell? ⟨gb125,2,none⟩ = some (.string a1_2):=(blk_cell BK125.out 2).trans rfl; have hcz35_3 : w32.cell? ⟨gb125,3,none⟩ = some (.string a1_3):=(blk_cell BK125.out 3).trans rfl; have hcz35_4 : w32.cell? ⟨gb125,4,none⟩ = some (.int .i64 a1_4):=(blk_cell BK125.out 4).trans rfl; have hcz35_5 : w32.cell? ⟨gb125,5,none⟩ = some (.slice A1_5 l1_5.length c1_5):=(blk_cell BK125.out 5).trans rfl; have hcz35_6 : w32.cell? ⟨gb125,6,none⟩ = some (.slice A1_6 l1_6.length c1_6):=(blk_cell BK125.out 6).trans rfl; have hfz35_0:=blk_frozen BK125.out 0; have hfz35_1:=blk_frozen BK125.out 1; have hfz35_2:=blk_frozen BK125.out 2; have hfz35_3:=blk_frozen BK125.out 3; have hfz35_4:=blk_frozen BK125.out 4; have hfz35_5:=blk_frozen BK125.out 5; have hfz35_6:=blk_frozen BK125.out 6))
    go_ret
    exact ⟨by first | rfl | (simp [errW_none,errW_some] <;> rfl) | (simp [*,errW_none,errW_some] <;> rfl),by repeat (first | (with_reducible first | exact HB.out | apply below_alloc | apply pw_below_drewN | apply below_drew1 | refine below_set ?_ GE124.out | refine below_set ?_ GE125.out) | exact HB.out)⟩
  ·rw [if_neg c4] at H
   have c4b0 : (a0_1.toList == a1_1.toList) = false:=beq_eq_false_iff_ne.mpr c4
   have c4b1 : (a0_1.toList != a1_1.toList) = true:=bne_iff_ne.mpr c4
   obtain rfl:=Option.some.inj H
   go_enter Tryd.func20,Tryd.ntmps20
   go_wp2_with (first | ((with_reducible refine gate_dst (N:=2) rfl ?_); refine box_event ?hg (N:=2) ?hd (cs:=#[.int .i64 a0_0,.string a0_1,.string a0_2,.string a0_3,.int .i64 a0_4,.slice A0_5 l0_5.length c0_5,.slice A0_6 l0_6.length c0_6]) (t:=24) ?hr ?_; (case hd => rfl); (case hg => rfl); (case hr => first | (go_simp; done) | (go_simp; rfl)); intro gb124 hg w36 hbox hb; have n0_:=Aside0.mk (below_step (by repeat (first | (with_reducible first | exact HB.out | apply below_alloc | apply pw_below_drewN | apply below_drew1) | exact HB.out)) hb); have n1_:=Aside0.mk (hbox); have n2_:=Aside0.mk ((by rw [hg]; exact (below_size (by repeat (first | (with_reducible first | exact HB.out | apply below_alloc | apply pw_below_drewN | apply below_drew1) | exact HB.out))) : w.heap.size ≤ gb124)); have n3_:=Aside0.mk ((by rw [hg]; exact (below_size (by repeat (first | (with_reducible first | exact HB.out | apply below_alloc | apply pw_below_drewN | apply below_drew1) | exact HB.out))) : w.heap.size ≤ gb124)); clear HB; have HB:=n0_; have BK124:=n1_; have GW124:=n2_; have GE124:=n3_; clear n0_ n1_ n2_ n3_; clear hb hbox hg) | ((with_reducible refine gate_dst (N:=3) rfl ?_); refine box_event ?hg (N:=3) ?hd (cs:=#[.int .i64 a1_0,.string a1_1,.string a1_2,.string a1_3,.int .i64 a1_4,.slice A1_5 l1_5.length c1_5,.slice A1_6 l1_6.length c1_6]) (t:=24) ?hr ?_; (case hd => rfl); (case hg => rfl); (case hr => first | (go_simp; done) | (go_simp; rfl)); intro gb125 hg w37 hbox hb; have n0_:=Aside0.mk (blk_below (g:=gb124) (o:=.cells #[.int .i64 a0_0,.string a0_1,.string a0_2,.string a0_3,.int .i64 a0_4,.slice A0_5 l0_5.length c0_5,.slice A0_6 l0_6.length c0_6] 24 (0,0)) (by (with_reducible repeat (first | refine blk_drewN ?_ _ | refine blk_drew ?_ | refine blk_alloc ?_ _)); exact BK124.out) hb); have n1_:=Aside0.mk (below_step (by repeat (first | (with_reducible first | exact HB.out | apply below_alloc | apply pw_below_drewN | apply below_drew1 | refine below_set ?_ GE124.out) | exact HB.out)) hb); have n2_:=Aside0.mk (hbox); have n3_:=Aside0.mk ((by rw [hg]; exact (below_size (by repeat (first | (with_reducible first | exact HB.out | apply below_alloc | apply pw_below_drewN | apply below_drew1 | refine below_set ?_ GE124.out) | exact HB.out))) : w.heap.size ≤ gb125)); have n4_:=Aside0.mk ((by rw [hg]; exact (below_size (by repeat (first | (with_reducible first | exact HB.out | apply below_alloc | apply pw_below_drewN | apply below_drew1 | refine below_set ?_ GE124.out) | exact HB.out))) : w.heap.size ≤ gb125)); have n5_:=Aside0.mk ((by rw [hg]; exact Nat.ne_of_lt (blk_lt (g:=gb124) (o:=.cells #[.int .i64 a0_0,.string a0_1,.string a0_2,.string a0_3,.int .i64 a0_4,.slice A0_5 l0_5.length c0_5,.slice A0_6 l0_6.length c0_6] 24 (0,0)) (by (with_reducible repeat (first | refine blk_drewN ?_ _ | refine blk_drew ?_ | refine blk_alloc ?_ _)); exact BK124.out)) : gb124 ≠ gb125)); have n6_:=Aside0.mk ((by rw [hg]; exact Nat.ne_of_gt (blk_lt (g:=gb124) (o:=.cells #[.int .i64 a0_0,.string a0_1,.string a0_2,.string a0_3,.int .i64 a0_4,.slice A0_5 l0_5.length c0_5,.slice A0_6 l0_6.length c0_6] 24 (0,0)) (by (with_reducible repeat (first | refine blk_drewN ?_ _ | refine blk_drew ?_ | refine blk_alloc ?_ _)); exact BK124.out)) : gb125 ≠ gb124)); clear BK124; clear HB; have BK124:=n0_; have HB:=n1_; have BK125:=n2_; have GW125:=n3_; have GE125:=n4_; have NB124_125:=n5_; have NB125_124:=n6_; clear n0_ n1_ n2_ n3_ n4_ n5_ n6_; clear hb hbox hg; have hnb38:=NB124_125.out; have hnc38:=NB125_124.out; have hcz39_0 : w37.cell? ⟨gb124,0,none⟩ = some (.int .i64 a0_0):=(blk_cell BK124.out 0).trans rfl; have hcz39_1 : w37.cell? ⟨gb124,1,none⟩ = some (.string a0_1):=(blk_cell BK124.out 1).trans rfl; have hcz39_2 : w37.cell? ⟨gb124,2,none⟩ = some (.string a0_2):=(blk_cell BK124.out 2).trans rfl; have hcz39_3 : w37.cell? ⟨gb124,3,none⟩ = some (.string a0_3):=(blk_cell BK124.out 3).trans rfl; have hcz39_4 : w37.cell? ⟨gb124,4,none⟩ = some (.int .i64 a0_4):=(blk_cell BK124.out 4).trans rfl; have hcz39_5 : w37.cell? ⟨gb124,5,none⟩ = some (.slice A0_5 l0_5.length c0_5):=(blk_cell BK124.out 5).trans rfl; have hcz39_6 : w37.cell? ⟨gb124,6,none⟩ = some (.slice A0_6 l0_6.length c0_6):=(blk_cell BK124.out 6).trans rfl; have hfz39_0:=blk_frozen BK124.out 0; have hfz39_1:=blk_frozen BK124.out 1; have hfz39_2:=blk_frozen BK124.out 2; have hfz39_3:=blk_frozen BK124.out 3; have hfz39_4:=blk_frozen BK124.out 4; have hfz39_5:=blk_frozen BK124.out 5; have hfz39_6:=blk_frozen BK124.out 6; have hcz40_0 : w37.cell? ⟨gb125,0,none⟩ = some (.int .i64 a1_0):=(blk_cell BK125.out 0).trans rfl; have hcz40_1 : w37.cell? ⟨gb125,1,none⟩ = some (.string a1_1):=(blk_cell BK125.out 1).trans rfl; have hcz40_2 : w37.cell? ⟨gb125,2,none⟩ = some (.string a1_2):=(blk_cell BK125.out 2).trans rfl; have hcz40_3 : w37.cell? ⟨gb125,3,none⟩ = some (.string a1_3):=(blk_cell BK125.out 3).trans rfl; have hcz40_4 : w37.cell? ⟨gb125,4,none⟩ = some (.int .i64 a1_4):=(blk_cell BK125.out 4).trans rfl; have hcz40_5 : w37.cell? ⟨gb125,5,none⟩ = some (.slice A1_5 l1_5.length c1_5):=(blk_cell BK125.out 5).trans rfl; have hcz40_6 : w37.cell? ⟨gb125,6,none⟩ = some (.slice A1_6 l1_6.length c1_6):=(blk_cell BK125.out 6).trans rfl; have hfz40_0:=blk_frozen BK125.out 0; have hfz40_1:=blk_frozen BK125.out 1; have hfz40_2:=blk_frozen BK125.out 2; have hfz40_3:=blk_frozen BK125.out 3; have hfz40_4:=blk_frozen BK125.out 4; have hfz40_5:=blk_frozen BK125.out 5; have hfz40_6:=blk_frozen BK125.out 6))
   go_ret
   exact ⟨by first | rfl | (simp [errW_none,errW_some] <;> rfl) | (simp [*,errW_none,errW_some] <;> rfl),by repeat (first | (with_reducible first | exact HB.out | apply below_alloc | apply pw_below_drewN | apply below_drew1 | refine below_set ?_ GE124.out | refine below_set ?_ GE125.out) | exact HB.out)⟩
 ·rw [if_neg c3] at H
  have c3b0 : (a0_0 == a1_0) = false:=beq_eq_false_iff_ne.mpr c3
  have c3b1 : (a0_0 != a1_0) = true:=bne_iff_ne.mpr c3
  obtain rfl:=Option.some.inj H
  go_enter Tryd.func20,Tryd.ntmps20
  go_wp2_with (first | ((with_reducible refine gate_dst (N:=2) rfl ?_); refine box_event ?hg (N:=2) ?hd (cs:=#[.int .i64 a0_0,.string a0_1,.string a0_2,.string a0_3,.int .i64 a0_4,.slice A0_5 l0_5.length c0_5,.slice A0_6 l0_6.length c0_6]) (t:=24) ?hr ?_; (case hd => rfl); (case hg => rfl); (case hr => first | (go_simp; done) | (go_simp; rfl)); intro gb124 hg w41 hbox hb; have n0_:=Aside0.mk (below_step (by repeat (first | (with_reducible first | exact HB.out | apply below_alloc | apply pw_below_drewN | apply below_drew1) | exact HB.out)) hb); have n1_:=Aside0.mk (hbox); have n2_:=Aside0.mk ((by rw [hg]; exact (below_size (by repeat (first | (with_reducible first | exact HB.out | apply below_alloc | apply pw_below_drewN | apply below_drew1) | exact HB.out))) : w.heap.size ≤ gb124)); have n3_:=Aside0.mk ((by rw [hg]; exact (below_size (by repeat (first | (with_reducible first | exact HB.out | apply below_alloc | apply pw_below_drewN | apply below_drew1) | exact HB.out))) : w.heap.size ≤ gb124)); clear HB; have HB:=n0_; have BK124:=n1_; have GW124:=n2_; have GE124:=n3_; clear n0_ n1_ n2_ n3_; clear hb hbox hg) | ((with_reducible refine gate_dst (N:=3) rfl ?_); refine box_event ?hg (N:=3) ?hd (cs:=#[.int .i64 a1_0,.string a1_1,.string a1_2,.string a1_3,.int .i64 a1_4,.slice A1_5 l1_5.length c1_5,.slice A1_6 l1_6.length c1_6]) (t:=24) ?hr ?_; (case hd => rfl); (case hg => rfl); (case hr => first | (go_simp; done) | (go_simp; rfl)); intro gb125 hg w42 hbox hb; have n0_:=Aside0.mk (blk_below (g:=gb124) (o:=.cells #[.int .i64 a0_0,.string a0_1,.string a0_2,.string a0_3,.int .i64 a0_4,.slice A0_5 l0_5.length c0_5,.slice A0_6 l0_6.length c0_6] 24 (0,0)) (by (with_reducible repeat (first | refine blk_drewN ?_ _ | refine blk_drew ?_ | refine blk_alloc ?_ _)); exact BK124.out) hb); have n1_:=Aside0.mk (below_step (by repeat (first | (with_reducible first | exact HB.out | apply below_alloc | apply pw_below_drewN | apply below_drew1 | refine below_set ?_ GE124.out) | exact HB.out)) hb); have n2_:=Aside0.mk (hbox); have n3_:=Aside0.mk ((by rw [hg]; exact (below_size (by repeat (first | (with_reducible first | exact HB.out | apply below_alloc | apply pw_below_drewN | apply below_drew1 | refine below_set ?_ GE124.out) | exact HB.out))) : w.heap.size ≤ gb125)); have n4_:=Aside0.mk ((by rw [hg]; exact (below_size (by repeat (first | (with_reducible first | exact HB.out | apply below_alloc | apply pw_below_drewN | apply below_drew1 | refine below_set ?_ GE124.out) | exact HB.out))) : w.heap.size ≤ gb125)); have n5_:=Aside0.mk ((by rw [hg]; exact Nat.ne_of_lt (blk_lt (g:=gb124) (o:=.cells #[.int .i64 a0_0,.string a0_1,.string a0_2,.string a0_3,.int .i64 a0_4,.slice A0_5 l0_5.length c0_5,.slice A0_6 l0_6.length c0_6] 24 (0,0)) (by (with_reducible repeat (first | refine blk_drewN ?_ _ | refine blk_drew ?_ | refine blk_alloc ?_ _)); exact BK124.out)) : gb124 ≠ gb125)); have n6_:=Aside0.mk ((by rw [hg]; exact Nat.ne_of_gt (blk_lt (g:=gb124) (o:=.cells #[.int .i64 a0_0,.string a0_1,.string a0_2,.string a0_3,.int .i64 a0_4,.slice A0_5 l0_5.length c0_5,.slice A0_6 l0_6.length c0_6] 24 (0,0)) (by (with_reducible repeat (first | refine blk_drewN ?_ _ | refine blk_drew ?_ | refine blk_alloc ?_ _)); exact BK124.out)) : gb125 ≠ gb124)); clear BK124; clear HB; have BK124:=n0_; have HB:=n1_; have BK125:=n2_; have GW125:=n3_; have GE125:=n4_; have NB124_125:=n5_; have NB125_124:=n6_; clear n0_ n1_ n2_ n3_ n4_ n5_ n6_; clear hb hbox hg; have hnb43:=NB124_125.out; have hnc43:=NB125_124.out; have hcz44_0 : w42.cell? ⟨gb124,0,none⟩ = some (.int .i64 a0_0):=(blk_cell BK124.out 0).trans rfl; have hcz44_1 : w42.cell? ⟨gb124,1,none⟩ = some (.string a0_1):=(blk_cell BK124.out 1).trans rfl; have hcz44_2 : w42.cell? ⟨gb124,2,none⟩ = some (.string a0_2):=(blk_cell BK124.out 2).trans rfl; have hcz44_3 : w42.cell? ⟨gb124,3,none⟩ = some (.string a0_3):=(blk_cell BK124.out 3).trans rfl; have hcz44_4 : w42.cell? ⟨gb124,4,none⟩ = some (.int .i64 a0_4):=(blk_cell BK124.out 4).trans rfl; have hcz44_5 : w42.cell? ⟨gb124,5,none⟩ = some (.slice A0_5 l0_5.length c0_5):=(blk_cell BK124.out 5).trans rfl; have hcz44_6 : w42.cell? ⟨gb124,6,none⟩ = some (.slice A0_6 l0_6.length c0_6):=(blk_cell BK124.out 6).trans rfl; have hfz44_0:=blk_frozen BK124.out 0; have hfz44_1:=blk_frozen BK124.out 1; have hfz44_2:=blk_frozen BK124.out 2; have hfz44_3:=blk_frozen BK124.out 3; have hfz44_4:=blk_frozen BK124.out 4; have hfz44_5:=blk_frozen BK124.out 5; have hfz44_6:=blk_frozen BK124.out 6; have hcz45_0 : w42.cell? ⟨gb125,0,none⟩ = some (.int .i64 a1_0):=(blk_cell BK125.out 0).trans rfl; have hcz45_1 : w42.cell? ⟨gb125,1,none⟩ = some (.string a1_1):=(blk_cell BK125.out 1).trans rfl; have hcz45_2 : w42.cell? ⟨gb125,2,none⟩ = some (.string a1_2):=(blk_cell BK125.out 2).trans rfl; have hcz45_3 : w42.cell? ⟨gb125,3,none⟩ = some (.string a1_3):=(blk_cell BK125.out 3).trans rfl; have hcz45_4 : w42.cell? ⟨gb125,4,none⟩ = some (.int .i64 a1_4):=(blk_cell BK125.out 4).trans rfl; have hcz45_5 : w42.cell? ⟨gb125,5,none⟩ = some (.slice A1_5 l1_5.length c1_5):=(blk_cell BK125.out 5).trans rfl; have hcz45_6 : w42.cell? ⟨gb125,6,none⟩ = some (.slice A1_6 l1_6.length c1_6):=(blk_cell BK125.out 6).trans rfl; have hfz45_0:=blk_frozen BK125.out 0; have hfz45_1:=blk_frozen BK125.out 1; have hfz45_2:=blk_frozen BK125.out 2; have hfz45_3:=blk_frozen BK125.out 3; have hfz45_4:=blk_frozen BK125.out 4; have hfz45_5:=blk_frozen BK125.out 5; have hfz45_6:=blk_frozen BK125.out 6))
  go_ret
  exact ⟨by first | rfl | (simp [errW_none,errW_some] <;> rfl) | (simp [*,errW_none,errW_some] <;> rfl),by repeat (first | (with_reducible first | exact HB.out | apply below_alloc | apply pw_below_drewN | apply below_drew1 | refine below_set ?_ GE124.out | refine below_set ?_ GE125.out) | exact HB.out)⟩

/-! ### counterpaneref08_SameList: function 21 -/
def counterpaneref08_SameList.l0 : Nat → List (S24) → List (S24) → Int → Option (Bool)
 | 0,_,_,_ => none
 | k + 1,x0,x1,x5 => if x5 < (x0.length : Int) then (if 0 ≤ x5 then (if x5 < (x1.length : Int) then ((counterpaneref08_Same.f k ((rd_T24 x0 x5).f0) ((rd_T24 x0 x5).f1) ((rd_T24 x0 x5).f2) ((rd_T24 x0 x5).f3) ((rd_T24 x0 x5).f4) ((rd_T24 x0 x5).f5) ((rd_T24 x0 x5).f6) ((rd_T24 x1 x5).f0) ((rd_T24 x1 x5).f1) ((rd_T24 x1 x5).f2) ((rd_T24 x1 x5).f3) ((rd_T24 x1 x5).f4) ((rd_T24 x1 x5).f5) ((rd_T24 x1 x5).f6)).bind fun t130 => (if t130 = true then (counterpaneref08_SameList.l0 k x0 x1 (wrap64 (x5 + 1))) else (some false))) else (none)) else (none)) else (some true)
def counterpaneref08_SameList.f (k : Nat) (l0 : List (S24)) (l1 : List (S24)) : Option (Bool):=if (l0.length : Int) = (l1.length : Int) then (counterpaneref08_SameList.l0 k l0 l1 0) else (some false)
theorem counterpaneref08_SameList.mono_l : ∀ k,(∀ y0 y1 y2,LeO (counterpaneref08_SameList.l0 k y0 y1 y2) (counterpaneref08_SameList.l0 (k + 1) y0 y1 y2))
 | 0 => fun _ _ _ r h => by simp [counterpaneref08_SameList.l0] at h
 | k + 1 => by
  have ih0:=counterpaneref08_SameList.mono_l k
  ·intro y0 y1 y2
   unfold counterpaneref08_SameList.l0
   repeat' first
   | (with_reducible exact ih0 _ _ _)
   | (with_reducible exact counterpaneref08_Same.mono _ _ _ _ _ _ _ _ _ _ _ _ _ _ _)
   | (with_reducible exact LeO.refl _)
   | (with_reducible exact LeO.none _)
   | (with_reducible refine LeO.ite ?_ ?_)
   | (with_reducible refine LeO.bind ?_ (fun _ => ?_))
   | exact ih0 _ _ _
   | exact counterpaneref08_Same.mono _ _ _ _ _ _ _ _ _ _ _ _ _ _ _
   | exact LeO.none _
   | refine LeO.ite ?_ ?_
   | refine LeO.bind ?_ (fun _ => ?_)
theorem counterpaneref08_SameList.mono : ∀ a0 a1 k,LeO (counterpaneref08_SameList.f k a0 a1) (counterpaneref08_SameList.f (k + 1) a0 a1):=by
 intro a0 a1 k
 have ih0:=counterpaneref08_SameList.mono_l k
 unfold counterpaneref08_SameList.f
 repeat' first
   | (with_reducible exact ih0 _ _ _)
   | (with_reducible exact counterpaneref08_Same.mono _ _ _ _ _ _ _ _ _ _ _ _ _ _ _)
   | (with_reducible exact LeO.refl _)
   | (with_reducible exact LeO.none _)
   | (with_reducible refine LeO.ite ?_ ?_)
   | (with_reducible refine LeO.bind ?_ (fun _ => ?_))
   | exact ih0 _ _ _
   | exact counterpaneref08_Same.mono _ _ _ _ _ _ _ _ _ _ _ _ _ _ _
   | exact LeO.none _
   | refine LeO.ite ?_ ?_
   | refine LeO.bind ?_ (fun _ => ?_)
def counterpaneref08_SameList.T6 : Bool × List (List Nat × List Nat):=(true,[([],[]),([],[]),([0,1],[0,1]),([2],[2]),([],[]),([],[]),([4,5],[4,5]),([6],[6]),([3,7],[3,7]),([8],[8])])
def counterpaneref08_SameList.B6 : List Nat:=[0,0,3,7,0,0,48,112,255,511]
theorem counterpaneref08_SameList.tab6 : rtab .any (opsOf Tryd.f21 6) = counterpaneref08_SameList.T6:=by kernel_rfl
theorem counterpaneref08_SameList.bits6 : waitsOk counterpaneref08_SameList.T6.2 counterpaneref08_SameList.B6 = true:=by kernel_rfl
set_option maxHeartbeats 8000000 in
set_option maxRecDepth 100000 in
theorem counterpaneref08_SameList.calls (k : Nat) (A0 : Option Addr) (c0 : Nat) (l0 : List (S24)) (A1 : Option Addr) (c1 : Nat) (l1 : List (S24)) (r : Bool) (w : World) (hr0 : Kd.C k24 w A0 l0.length l0) (hc0 : l0.length ≤ c0) (hr1 : Kd.C k24 w A1 l1.length l1) (hc1 : l1.length ≤ c1) (h : counterpaneref08_SameList.f k l0 l1 = some r) :
  Calls Tryd.prog 21 #[.slice A0 l0.length c0,.slice A1 l1.length c1] w fun e w' => e = .returned (.bool r) ∧ Below w.heap.size w w':=by
 have hu24:=Tryd.underlying24
 have HR0:=Aside0.mk hr0
 have HC0:=Aside0.mk hc0
 clear hr0 hc0
 have HR1:=Aside0.mk hr1
 have HC1:=Aside0.mk hc1
 clear hr1 hc1
 have HB:=Aside0.mk (Below.refl w.heap.size w)
 have H : (if (l0.length : Int) = (l1.length : Int) then (counterpaneref08_SameList.l0 k l0 l1 0) else (some false)) = some r:=h
 clear h
 by_cases c3 : (l0.length : Int) = (l1.length : Int)
 ·rw [if_pos c3] at H
  have c3b0 : ((l0.length : Int) == (l1.length : Int)) = true:=beq_iff_eq.mpr c3
  have c3b1 : ((l0.length : Int) != (l1.length : Int)) = false:=bne_eq_false_iff_eq.mpr c3
  have c3b2 : (l0.length == l1.length) = true:=by first | simpa using c3 | (simp at c3 ⊢; omega)
  clear c3
  have H':=Aside0.mk H
  clear H
  go_enter Tryd.func21,Tryd.ntmps21
  go_wp2
  go_loopg [5] k (fun kq v5 w' => ∃ (x5_1 : Int),v5 = .int .i64 x5_1 ∧ Aside0 (counterpaneref08_SameList.l0 kq l0 l1 x5_1 = some r) ∧ Aside0 (kq ≤ k) ∧ Aside0 (Below w.heap.size w w'))
  case atStart => exact ⟨(0),(by first | rfl | (simp; done) | (simp [*]; done)),H',⟨Nat.le_refl _⟩,⟨by repeat (first | (with_reducible first | exact HB.out | apply below_alloc | apply pw_below_drewN | apply below_drew1) | exact HB.out)⟩⟩
  case round =>
   clear H'
   try clear c1
   try clear c2
   try clear p2
   try clear c3
   try clear c3b0
   try clear c3b1
   try clear c3b2
   obtain ⟨x5_1,rfl,HA,HK1,HB⟩:=hrel
   cases gk with
   | zero => exact absurd HA.out (by simp [counterpaneref08_SameList.l0])
   | succ k1 =>
    have H:=HA.out
    clear HA
    simp only [counterpaneref08_SameList.l0] at H
    by_cases c4 : x5_1 < (l0.length : Int)
    ·rw [if_pos c4] at H
     have c4b0 : decide (x5_1 < (l0.length : Int)) = true:=decide_eq_true c4
     clear c4
     by_cases c5 : 0 ≤ x5_1
     ·rw [if_pos c5] at H
      have c5b0 : decide (0 ≤ x5_1) = true:=decide_eq_true c5
      clear c5
      by_cases c6 : x5_1 < (l1.length : Int)
      ·rw [if_pos c6] at H
       have c6b0 : decide (x5_1 < (l1.length : Int)) = true:=decide_eq_true c6
       clear c6
       replace H:=Option.bind_eq_some_iff.mp H
       obtain ⟨t130,A70,H⟩:=H
       replace H : (if t130 = true then (counterpaneref08_SameList.l0 k1 l0 l1 (wrap64 (x5_1 + 1))) else (some false)) = some r:=H
       have A7:=Aside0.mk A70
       clear A70
       by_cases c8 : t130 = true
       ·subst c8
        have H1 : (counterpaneref08_SameList.l0 k1 l0 l1 (wrap64 (x5_1 + 1))) = some r:=by rw [if_pos rfl] at H; exact H
        clear H
        have H:=H1
        clear H1
        have H':=Aside0.mk H
        clear H
        try go_wp2
        have n0_:=Aside0.mk (below_drew1 HB.out)
        clear HB
        have HB:=n0_
        clear n0_
        have p128 : 0 ≤ (x5_1 : Int):=of_decide_eq_true (by first | (with_reducible assumption) | assumption)
        have q128 : x5_1 < (l0.length : Int):=of_decide_eq_true (by first | (with_reducible assumption) | assumption)
        obtain ⟨ad128,A128_5,c128_5,A128_6,c128_6,e128,hx128_0,hx128_1,hx128_2,hx128_3,hx128_4,hx128_5,hx128_6,hl128_5,hi128_5,hl128_6,hi128_6⟩:=at_T24 HR0.out x5_1 p128 q128
        have hw128_6:=hx128_6
        have hw128_5:=hx128_5
        have hw128_4:=hx128_4
        have hw128_3:=hx128_3
        have hw128_2:=hx128_2
        have hw128_1:=hx128_1
        have hw128_0:=hx128_0
        cases e128
        replace hx128_0:=(HB.out.cell (World.block_lt_of_cell? w _ hx128_0)).trans hx128_0
        replace hx128_1:=(HB.out.cell (World.block_lt_of_cell? w _ hx128_1)).trans hx128_1
        replace hx128_2:=(HB.out.cell (World.block_lt_of_cell? w _ hx128_2)).trans hx128_2
        replace hx128_3:=(HB.out.cell (World.block_lt_of_cell? w _ hx128_3)).trans hx128_3
        replace hx128_4:=(HB.out.cell (World.block_lt_of_cell? w _ hx128_4)).trans hx128_4
        replace hx128_5:=(HB.out.cell (World.block_lt_of_cell? w _ hx128_5)).trans hx128_5
        replace hx128_6:=(HB.out.cell (World.block_lt_of_cell? w _ hx128_6)).trans hx128_6
        have HR128_5:=Aside0.mk hi128_5
        have HC128_5:=Aside0.mk hl128_5
        clear hi128_5 hl128_5
        have HR128_6:=Aside0.mk hi128_6
        have HC128_6:=Aside0.mk hl128_6
        clear hi128_6 hl128_6
        replace p128:=eq_true p128
        replace q128:=eq_true q128
        have p129 : 0 ≤ (x5_1 : Int):=of_decide_eq_true (by first | (with_reducible assumption) | assumption)
        have q129 : x5_1 < (l1.length : Int):=of_decide_eq_true (by first | (with_reducible assumption) | assumption)
        obtain ⟨ad129,A129_5,c129_5,A129_6,c129_6,e129,hx129_0,hx129_1,hx129_2,hx129_3,hx129_4,hx129_5,hx129_6,hl129_5,hi129_5,hl129_6,hi129_6⟩:=at_T24 HR1.out x5_1 p129 q129
        have hw129_6:=hx129_6
        have hw129_5:=hx129_5
        have hw129_4:=hx129_4
        have hw129_3:=hx129_3
        have hw129_2:=hx129_2
        have hw129_1:=hx129_1
        have hw129_0:=hx129_0
        cases e129
        replace hx129_0:=(HB.out.cell (World.block_lt_of_cell? w _ hx129_0)).trans hx129_0
        replace hx129_1:=(HB.out.cell (World.block_lt_of_cell? w _ hx129_1)).trans hx129_1
        replace hx129_2:=(HB.out.cell (World.block_lt_of_cell? w _ hx129_2)).trans hx129_2
        replace hx129_3:=(HB.out.cell (World.block_lt_of_cell? w _ hx129_3)).trans hx129_3
        replace hx129_4:=(HB.out.cell (World.block_lt_of_cell? w _ hx129_4)).trans hx129_4
        replace hx129_5:=(HB.out.cell (World.block_lt_of_cell? w _ hx129_5)).trans hx129_5
        replace hx129_6:=(HB.out.cell (World.block_lt_of_cell? w _ hx129_6)).trans hx129_6
        have HR129_5:=Aside0.mk hi129_5
        have HC129_5:=Aside0.mk hl129_5
        clear hi129_5 hl129_5
        have HR129_6:=Aside0.mk hi129_6
        have HC129_6:=Aside0.mk hl129_6
        clear hi129_6 hl129_6
        replace p129:=eq_true p129
        replace q129:=eq_true q129
        refine start_ (n:=10) (S:=fun w' => w'.cell? (ad128.add ((x5_1).toNat * 7)) = some (.int .i64 ((rd_T24 l0 x5_1).f0)) ∧ w'.cell? ⟨(ad128.add ((x5_1).toNat * 7)).block,(ad128.add ((x5_1).toNat * 7)).off + 1,none⟩ = some (.string ((rd_T24 l0 x5_1).f1)) ∧ w'.cell? ⟨(ad128.add ((x5_1).toNat * 7)).block,(ad128.add ((x5_1).toNat * 7)).off + 2,none⟩ = some (.string ((rd_T24 l0 x5_1).f2)) ∧ w'.cell? ⟨(ad128.add ((x5_1).toNat * 7)).block,(ad128.add ((x5_1).toNat * 7)).off + 3,none⟩ = some (.string ((rd_T24 l0 x5_1).f3)) ∧ w'.cell? ⟨(ad128.add ((x5_1).toNat * 7)).block,(ad128.add ((x5_1).toNat * 7)).off + 4,none⟩ = some (.int .i64 ((rd_T24 l0 x5_1).f4)) ∧ w'.cell? ⟨(ad128.add ((x5_1).toNat * 7)).block,(ad128.add ((x5_1).toNat * 7)).off + 5,none⟩ = some (.slice A128_5 ((rd_T24 l0 x5_1).f5).length c128_5) ∧ w'.cell? ⟨(ad128.add ((x5_1).toNat * 7)).block,(ad128.add ((x5_1).toNat * 7)).off + 6,none⟩ = some (.slice A128_6 ((rd_T24 l0 x5_1).f6).length c128_6) ∧ w'.cell? (ad129.add ((x5_1).toNat * 7)) = some (.int .i64 ((rd_T24 l1 x5_1).f0)) ∧ w'.cell? ⟨(ad129.add ((x5_1).toNat * 7)).block,(ad129.add ((x5_1).toNat * 7)).off + 1,none⟩ = some (.string ((rd_T24 l1 x5_1).f1)) ∧ w'.cell? ⟨(ad129.add ((x5_1).toNat * 7)).block,(ad129.add ((x5_1).toNat * 7)).off + 2,none⟩ = some (.string ((rd_T24 l1 x5_1).f2)) ∧ w'.cell? ⟨(ad129.add ((x5_1).toNat * 7)).block,(ad129.add ((x5_1).toNat * 7)).off + 3,none⟩ = some (.string ((rd_T24 l1 x5_1).f3)) ∧ w'.cell? ⟨(ad129.add ((x5_1).toNat * 7)).block,(ad129.add ((x5_1).toNat * 7)).off + 4,none⟩ = some (.int .i64 ((rd_T24 l1 x5_1).f4)) ∧ w'.cell? ⟨(ad129.add ((x5_1).toNat * 7)).block,(ad129.add ((x5_1).toNat * 7)).off + 5,none⟩ = some (.slice A129_5 ((rd_T24 l1 x5_1).f5).length c129_5) ∧ w'.cell? ⟨(ad129.add ((x5_1).toNat * 7)).block,(ad129.add ((x5_1).toNat * 7)).off + 6,none⟩ = some (.slice A129_6 ((rd_T24 l1 x5_1).f6).length c129_6)) (ds:=[]) #[false,false,false,false,false,false,false,false,false,false] (by kernel_rfl) rfl rfl ⟨((HB.out.cell (World.block_lt_of_cell? w _ hw128_0)).trans hw128_0),((HB.out.cell (World.block_lt_of_cell? w _ hw128_1)).trans hw128_1),((HB.out.cell (World.block_lt_of_cell? w _ hw128_2)).trans hw128_2),((HB.out.cell (World.block_lt_of_cell? w _ hw128_3)).trans hw128_3),((HB.out.cell (World.block_lt_of_cell? w _ hw128_4)).trans hw128_4),((HB.out.cell (World.block_lt_of_cell? w _ hw128_5)).trans hw128_5),((HB.out.cell (World.block_lt_of_cell? w _ hw128_6)).trans hw128_6),((HB.out.cell (World.block_lt_of_cell? w _ hw129_0)).trans hw129_0),((HB.out.cell (World.block_lt_of_cell? w _ hw129_1)).trans hw129_1),((HB.out.cell (World.block_lt_of_cell? w _ hw129_2)).trans hw129_2),((HB.out.cell (World.block_lt_of_cell? w _ hw129_3)).trans hw129_3),((HB.out.cell (World.block_lt_of_cell? w _ hw129_4)).trans hw129_4),((HB.out.cell (World.block_lt_of_cell? w _ hw129_5)).trans hw129_5),((HB.out.cell (World.block_lt_of_cell? w _ hw129_6)).trans hw129_6)⟩ (fun hHeld => ?_); refine with_tabW counterpaneref08_SameList.tab6 counterpaneref08_SameList.bits6 (fun HT_ HW_ => ?_)
        generalize wr.drew = w9 at HB HR128_5 HR128_6 HR129_5 HR129_6 hx128_0 hx128_1 hx128_2 hx128_3 hx128_4 hx128_5 hx128_6 hx129_0 hx129_1 hx129_2 hx129_3 hx129_4 hx129_5 hx129_6 hHeld ⊢
        refine pure_ (i:=0) (N:=some 17) (v:=?_) (a':=?_) #[true,false,false,false,false,false,false,false,false,false] rfl rfl (any_of HT_.out (by kernel_rfl)) (fun _ _ _ h => h) (Or.inl ⟨by rfl,?_⟩) ?_ ?_
        rotate_left
        ·intro w'
         go_simp
         with_reducible rfl
        rotate_left
        ·simp only [Act.put,List.setIfInBounds_toArray,List.set_cons_zero,List.set_cons_succ,i64_w,i32_w]
         rfl
        refine pure_ (i:=1) (N:=some 18) (v:=?_) (a':=?_) #[true,true,false,false,false,false,false,false,false,false] rfl rfl (any_of HT_.out (by kernel_rfl)) (fun _ _ _ h => h) (Or.inl ⟨by rfl,?_⟩) ?_ ?_
        rotate_left
        ·intro w'
         go_simp
         with_reducible rfl
        rotate_left
        ·simp only [Act.put,List.setIfInBounds_toArray,List.set_cons_zero,List.set_cons_succ,i64_w,i32_w]
         rfl
        refine pure_ (i:=2) (N:=some 19) (v:=?_) (a':=?_) #[true,true,true,false,false,false,false,false,false,false] rfl rfl (any_of HT_.out (by kernel_rfl)) (fun _ _ _ h => h) (Or.inl ⟨by rfl,?_⟩) ?_ ?_
        rotate_left
        ·intro w'
         go_simp
         with_reducible rfl
        rotate_left
        ·simp only [Act.put,List.setIfInBounds_toArray,List.set_cons_zero,List.set_cons_succ,i64_w,i32_w]
         rfl
        refine pure_ (i:=4) (N:=some 21) (v:=?_) (a':=?_) #[true,true,true,false,true,false,false,false,false,false] rfl rfl (any_of HT_.out (by kernel_rfl)) (fun _ _ _ h => h) (Or.inl ⟨by rfl,?_⟩) ?_ ?_
        rotate_left
        ·intro w'
         go_simp
         with_reducible rfl
        rotate_left
        ·simp only [Act.put,List.setIfInBounds_toArray,List.set_cons_zero,List.set_cons_succ,i64_w,i32_w]
         rfl
        refine pure_ (i:=5) (N:=some 22) (v:=?_) (a':=?_) #[true,true,true,false,true,true,false,false,false,false] rfl rfl (any_of HT_.out (by kernel_rfl)) (fun _ _ _ h => h) (Or.inl ⟨by rfl,?_⟩) ?_ ?_
        rotate_left
        ·intro w'
         go_simp
         with_reducible rfl
        rotate_left
        ·simp only [Act.put,List.setIfInBounds_toArray,List.set_cons_zero,List.set_cons_succ,i64_w,i32_w]
         rfl
        refine pure_ (i:=6) (N:=some 23) (v:=?_) (a':=?_) #[true,true,true,false,true,true,true,false,false,false] rfl rfl (any_of HT_.out (by kernel_rfl)) (fun _ _ _ h => h) (Or.inl ⟨by rfl,?_⟩) ?_ ?_
        rotate_left
        ·intro w'
         go_simp
         with_reducible rfl
        rotate_left
        ·simp only [Act.put,List.setIfInBounds_toArray,List.set_cons_zero,List.set_cons_succ,i64_w,i32_w]
         rfl
        refine take_ (i:=3) (N:=some 20) (v:=?_) (a':=?_) #[true,true,true,true,true,true,true,false,false,false] rfl rfl (take_ofW HT_.out HW_.out (by kernel_rfl)) (fun _ _ _ h => h) (Or.inl ⟨by rfl,?_⟩) hHeld ?_ ?_
        rotate_left
        ·rintro w' ⟨s0,s1,s2,s3,s4,s5,s6,s7,s8,s9,s10,s11,s12,s13⟩
         go_simp
         with_reducible rfl
        rotate_left
        ·simp only [Act.put,List.setIfInBounds_toArray,List.set_cons_zero,List.set_cons_succ,i64_w,i32_w]
         rfl
        refine take_ (i:=7) (N:=some 24) (v:=?_) (a':=?_) #[true,true,true,true,true,true,true,true,false,false] rfl rfl (take_ofW HT_.out HW_.out (by kernel_rfl)) (fun _ _ _ h => h) (Or.inl ⟨by rfl,?_⟩) hHeld ?_ ?_
        rotate_left
        ·rintro w' ⟨s0,s1,s2,s3,s4,s5,s6,s7,s8,s9,s10,s11,s12,s13⟩
         go_simp
         with_reducible rfl
        rotate_left
        ·simp only [Act.put,List.setIfInBounds_toArray,List.set_cons_zero,List.set_cons_succ,i64_w,i32_w]
         rfl
        refine one_ (i:=8) (N:=some 25) #[true,true,true,true,true,true,true,true,true,false] rfl rfl (one_of HT_.out (by kernel_rfl)) (by decide) (fun K hK => ?_)
        refine goes_ Tryd.func20 (by kernel_rfl) rfl #[.agg #[.int .i64 ((rd_T24 l0 x5_1).f0),.string ((rd_T24 l0 x5_1).f1),.string ((rd_T24 l0 x5_1).f2),.string ((rd_T24 l0 x5_1).f3),.int .i64 ((rd_T24 l0 x5_1).f4),.slice A128_5 ((rd_T24 l0 x5_1).f5).length c128_5,.slice A128_6 ((rd_T24 l0 x5_1).f6).length c128_6],.agg #[.int .i64 ((rd_T24 l1 x5_1).f0),.string ((rd_T24 l1 x5_1).f1),.string ((rd_T24 l1 x5_1).f2),.string ((rd_T24 l1 x5_1).f3),.int .i64 ((rd_T24 l1 x5_1).f4),.slice A129_5 ((rd_T24 l1 x5_1).f5).length c129_5,.slice A129_6 ((rd_T24 l1 x5_1).f6).length c129_6]] (by rfl) rfl rfl (by (try simp only [List.map_toArray,List.map_cons,List.map_nil]); first | done | rfl | (simp only [List.length_drop,List.length_take]; rfl)) ?_
        with_reducible refine (counterpaneref08_Same.calls k1 ((rd_T24 l0 x5_1).f0) ((rd_T24 l0 x5_1).f1) ((rd_T24 l0 x5_1).f2) ((rd_T24 l0 x5_1).f3) ((rd_T24 l0 x5_1).f4) _ _ ((rd_T24 l0 x5_1).f5) _ _ ((rd_T24 l0 x5_1).f6) ((rd_T24 l1 x5_1).f0) ((rd_T24 l1 x5_1).f1) ((rd_T24 l1 x5_1).f2) ((rd_T24 l1 x5_1).f3) ((rd_T24 l1 x5_1).f4) _ _ ((rd_T24 l1 x5_1).f5) _ _ ((rd_T24 l1 x5_1).f6) true _ ?side1 ?side2 ?side3 ?side4 ?side5 ?side6 ?side7 ?side8 A7.out).mono ?_
        (case side1 => repeat (first | exact (Kd.C_below HR128_5.out HB.out) | (with_reducible refine Kd.C_alloc ?_ _) | (with_reducible refine Kd.C_drewN ?_ _) | (with_reducible refine Kd.C_drew ?_)))
        (case side2 => exact HC128_5.out)
        (case side3 => repeat (first | exact (Kd.C_below HR128_6.out HB.out) | (with_reducible refine Kd.C_alloc ?_ _) | (with_reducible refine Kd.C_drewN ?_ _) | (with_reducible refine Kd.C_drew ?_)))
        (case side4 => exact HC128_6.out)
        (case side5 => repeat (first | exact (Kd.C_below HR129_5.out HB.out) | (with_reducible refine Kd.C_alloc ?_ _) | (with_reducible refine Kd.C_drewN ?_ _) | (with_reducible refine Kd.C_drew ?_)))
        (case side6 => exact HC129_5.out)
        (case side7 => repeat (first | exact (Kd.C_below HR129_6.out HB.out) | (with_reducible refine Kd.C_alloc ?_ _) | (with_reducible refine Kd.C_drewN ?_ _) | (with_reducible refine Kd.C_drew ?_)))
        (case side8 => exact HC129_6.out)
        rintro e w10 ⟨rfl,hb⟩
        refine ⟨_,rfl,?_⟩
        have n0_:=Aside0.mk (below_step (by repeat (first | (with_reducible first | exact HB.out | apply below_alloc | apply pw_below_drewN | apply below_drew1) | exact HB.out)) hb)
        clear HB
        have HB:=n0_
        clear n0_
        (try clear hb)
        (try clear hb2)
        (try clear hk)
        (try clear hi)
        refine hK.out _ _ ⟨((HB.out.cell (World.block_lt_of_cell? w _ hw128_0)).trans hw128_0),((HB.out.cell (World.block_lt_of_cell? w _ hw128_1)).trans hw128_1),((HB.out.cell (World.block_lt_of_cell? w _ hw128_2)).trans hw128_2),((HB.out.cell (World.block_lt_of_cell? w _ hw128_3)).trans hw128_3),((HB.out.cell (World.block_lt_of_cell? w _ hw128_4)).trans hw128_4),((HB.out.cell (World.block_lt_of_cell? w _ hw128_5)).trans hw128_5),((HB.out.cell (World.block_lt_of_cell? w _ hw128_6)).trans hw128_6),((HB.out.cell (World.block_lt_of_cell? w _ hw129_0)).trans hw129_0),((HB.out.cell (World.block_lt_of_cell? w _ hw129_1)).trans hw129_1),((HB.out.cell (World.block_lt_of_cell? w _ hw129_2)).trans hw129_2),((HB.out.cell (World.block_lt_of_cell? w _ hw129_3)).trans hw129_3),((HB.out.cell (World.block_lt_of_cell? w _ hw129_4)).trans hw129_4),((HB.out.cell (World.block_lt_of_cell? w _ hw129_5)).trans hw129_5),((HB.out.cell (World.block_lt_of_cell? w _ hw129_6)).trans hw129_6)⟩ (fun hHeld => ?_)
        clear hK K
        refine norm_ (a':=?_) ?_ ?_
        rotate_left
        ·show Act.put _ (some 25) _ = _
         simp only [Act.put,List.setIfInBounds_toArray,List.set_cons_zero,List.set_cons_succ,i64_w,i32_w]
         rfl
        refine pure_ (i:=9) (N:=some 26) (v:=?_) (a':=?_) #[true,true,true,true,true,true,true,true,true,true] rfl rfl (any_of HT_.out (by kernel_rfl)) (fun _ _ _ h => h) (Or.inl ⟨by rfl,?_⟩) ?_ ?_
        rotate_left
        ·intro w'
         go_simp
         with_reducible rfl
        rotate_left
        ·simp only [Act.put,List.setIfInBounds_toArray,List.set_cons_zero,List.set_cons_succ,i64_w,i32_w]
         rfl
        refine done_ (done_of HT_.out (by kernel_rfl)) ?_
        try go_wp2
        go_roundg k1
        case measure => have:=HK1.out; omega
        case rel => exact ⟨(wrap64 (x5_1 + 1)),(by first | rfl | (simp; done) | (simp [*]; done)),H',⟨by have:=HK1.out; omega⟩,⟨by repeat (first | (with_reducible first | exact HB.out | apply below_alloc | apply pw_below_drewN | apply below_drew1) | exact HB.out)⟩⟩
       ·replace c8:=Bool.eq_false_iff.mpr c8
        subst c8
        have H1 : (some false) = some r:=by rw [if_neg (show ¬ (false = true) by decide)] at H; exact H
        clear H
        have H:=H1
        clear H1
        obtain rfl:=Option.some.inj H
        try go_wp2
        have n0_:=Aside0.mk (below_drew1 HB.out)
        clear HB
        have HB:=n0_
        clear n0_
        have p128 : 0 ≤ (x5_1 : Int):=of_decide_eq_true (by first | (with_reducible assumption) | assumption)
        have q128 : x5_1 < (l0.length : Int):=of_decide_eq_true (by first | (with_reducible assumption) | assumption)
        obtain ⟨ad128,A128_5,c128_5,A128_6,c128_6,e128,hx128_0,hx128_1,hx128_2,hx128_3,hx128_4,hx128_5,hx128_6,hl128_5,hi128_5,hl128_6,hi128_6⟩:=at_T24 HR0.out x5_1 p128 q128
        have hw128_6:=hx128_6
        have hw128_5:=hx128_5
        have hw128_4:=hx128_4
        have hw128_3:=hx128_3
        have hw128_2:=hx128_2
        have hw128_1:=hx128_1
        have hw128_0:=hx128_0
        cases e128
        replace hx128_0:=(HB.out.cell (World.block_lt_of_cell? w _ hx128_0)).trans hx128_0
        replace hx128_1:=(HB.out.cell (World.block_lt_of_cell? w _ hx128_1)).trans hx128_1
        replace hx128_2:=(HB.out.cell (World.block_lt_of_cell? w _ hx128_2)).trans hx128_2
        replace hx128_3:=(HB.out.cell (World.block_lt_of_cell? w _ hx128_3)).trans hx128_3
        replace hx128_4:=(HB.out.cell (World.block_lt_of_cell? w _ hx128_4)).trans hx128_4
        replace hx128_5:=(HB.out.cell (World.block_lt_of_cell? w _ hx128_5)).trans hx128_5
        replace hx128_6:=(HB.out.cell (World.block_lt_of_cell? w _ hx128_6)).trans hx128_6
        have HR128_5:=Aside0.mk hi128_5
        have HC128_5:=Aside0.mk hl128_5
        clear hi128_5 hl128_5
        have HR128_6:=Aside0.mk hi128_6
        have HC128_6:=Aside0.mk hl128_6
        clear hi128_6 hl128_6
        replace p128:=eq_true p128
        replace q128:=eq_true q128
        have p129 : 0 ≤ (x5_1 : Int):=of_decide_eq_true (by first | (with_reducible assumption) | assumption)
        have q129 : x5_1 < (l1.length : Int):=of_decide_eq_true (by first | (with_reducible assumption) | assumption)
        obtain ⟨ad129,A129_5,c129_5,A129_6,c129_6,e129,hx129_0,hx129_1,hx129_2,hx129_3,hx129_4,hx129_5,hx129_6,hl129_5,hi129_5,hl129_6,hi129_6⟩:=at_T24 HR1.out x5_1 p129 q129
        have hw129_6:=hx129_6
        have hw129_5:=hx129_5
        have hw129_4:=hx129_4
        have hw129_3:=hx129_3
        have hw129_2:=hx129_2
        have hw129_1:=hx129_1
        have hw129_0:=hx129_0
        cases e129
        replace hx129_0:=(HB.out.cell (World.block_lt_of_cell? w _ hx129_0)).trans hx129_0
        replace hx129_1:=(HB.out.cell (World.block_lt_of_cell? w _ hx129_1)).trans hx129_1
        replace hx129_2:=(HB.out.cell (World.block_lt_of_cell? w _ hx129_2)).trans hx129_2
        replace hx129_3:=(HB.out.cell (World.block_lt_of_cell? w _ hx129_3)).trans hx129_3
        replace hx129_4:=(HB.out.cell (World.block_lt_of_cell? w _ hx129_4)).trans hx129_4
        replace hx129_5:=(HB.out.cell (World.block_lt_of_cell? w _ hx129_5)).trans hx129_5
        replace hx129_6:=(HB.out.cell (World.block_lt_of_cell? w _ hx129_6)).trans hx129_6
        have HR129_5:=Aside0.mk hi129_5
        have HC129_5:=Aside0.mk hl129_5
        clear hi129_5 hl129_5
        have HR129_6:=Aside0.mk hi129_6
        have HC129_6:=Aside0.mk hl129_6
        clear hi129_6 hl129_6
        replace p129:=eq_true p129
        replace q129:=eq_true q129
        refine start_ (n:=10) (S:=fun w' => w'.cell? (ad128.add ((x5_1).toNat * 7)) = some (.int .i64 ((rd_T24 l0 x5_1).f0)) ∧ w'.cell? ⟨(ad128.add ((x5_1).toNat * 7)).block,(ad128.add ((x5_1).toNat * 7)).off + 1,none⟩ = some (.string ((rd_T24 l0 x5_1).f1)) ∧ w'.cell? ⟨(ad128.add ((x5_1).toNat * 7)).block,(ad128.add ((x5_1).toNat * 7)).off + 2,none⟩ = some (.string ((rd_T24 l0 x5_1).f2)) ∧ w'.cell? ⟨(ad128.add ((x5_1).toNat * 7)).block,(ad128.add ((x5_1).toNat * 7)).off + 3,none⟩ = some (.string ((rd_T24 l0 x5_1).f3)) ∧ w'.cell? ⟨(ad128.add ((x5_1).toNat * 7)).block,(ad128.add ((x5_1).toNat * 7)).off + 4,none⟩ = some (.int .i64 ((rd_T24 l0 x5_1).f4)) ∧ w'.cell? ⟨(ad128.add ((x5_1).toNat * 7)).block,(ad128.add ((x5_1).toNat * 7)).off + 5,none⟩ = some (.slice A128_5 ((rd_T24 l0 x5_1).f5).length c128_5) ∧ w'.cell? ⟨(ad128.add ((x5_1).toNat * 7)).block,(ad128.add ((x5_1).toNat * 7)).off + 6,none⟩ = some (.slice A128_6 ((rd_T24 l0 x5_1).f6).length c128_6) ∧ w'.cell? (ad129.add ((x5_1).toNat * 7)) = some (.int .i64 ((rd_T24 l1 x5_1).f0)) ∧ w'.cell? ⟨(ad129.add ((x5_1).toNat * 7)).block,(ad129.add ((x5_1).toNat * 7)).off + 1,none⟩ = some (.string ((rd_T24 l1 x5_1).f1)) ∧ w'.cell? ⟨(ad129.add ((x5_1).toNat * 7)).block,(ad129.add ((x5_1).toNat * 7)).off + 2,none⟩ = some (.string ((rd_T24 l1 x5_1).f2)) ∧ w'.cell? ⟨(ad129.add ((x5_1).toNat * 7)).block,(ad129.add ((x5_1).toNat * 7)).off + 3,none⟩ = some (.string ((rd_T24 l1 x5_1).f3)) ∧ w'.cell? ⟨(ad129.add ((x5_1).toNat * 7)).block,(ad129.add ((x5_1).toNat * 7)).off + 4,none⟩ = some (.int .i64 ((rd_T24 l1 x5_1).f4)) ∧ w'.cell? ⟨(ad129.add ((x5_1).toNat * 7)).block,(ad129.add ((x5_1).toNat * 7)).off + 5,none⟩ = some (.slice A129_5 ((rd_T24 l1 x5_1).f5).length c129_5) ∧ w'.cell? ⟨(ad129.add ((x5_1).toNat * 7)).block,(ad129.add ((x5_1).toNat * 7)).off + 6,none⟩ = some (.slice A129_6 ((rd_T24 l1 x5_1).f6).length c129_6)) (ds:=[]) #[false,false,false,false,false,false,false,false,false,false] (by kernel_rfl) rfl rfl ⟨((HB.out.cell (World.block_lt_of_cell? w _ hw128_0)).trans hw128_0),((HB.out.cell (World.block_lt_of_cell? w _ hw128_1)).trans hw128_1),((HB.out.cell (World.block_lt_of_cell? w _ hw128_2)).trans hw128_2),((HB.out.cell (World.block_lt_of_cell? w _ hw128_3)).trans hw128_3),((HB.out.cell (World.block_lt_of_cell? w _ hw128_4)).trans hw128_4),((HB.out.cell (World.block_lt_of_cell? w _ hw128_5)).trans hw128_5),((HB.out.cell (World.block_lt_of_cell? w _ hw128_6)).trans hw128_6),((HB.out.cell (World.block_lt_of_cell? w _ hw129_0)).trans hw129_0),((HB.out.cell (World.block_lt_of_cell? w _ hw129_1)).trans hw129_1),((HB.out.cell (World.block_lt_of_cell? w _ hw129_2)).trans hw129_2),((HB.out.cell (World.block_lt_of_cell? w _ hw129_3)).trans hw129_3),((HB.out.cell (World.block_lt_of_cell? w _ hw129_4)).trans hw129_4),((HB.out.cell (World.block_lt_of_cell? w _ hw129_5)).trans hw129_5),((HB.out.cell (World.block_lt_of_cell? w _ hw129_6)).trans hw129_6)⟩ (fun hHeld => ?_); refine with_tabW counterpaneref08_SameList.tab6 counterpaneref08_SameList.bits6 (fun HT_ HW_ => ?_)
        generalize wr.drew = w11 at HB HR128_5 HR128_6 HR129_5 HR129_6 hx128_0 hx128_1 hx128_2 hx128_3 hx128_4 hx128_5 hx128_6 hx129_0 hx129_1 hx129_2 hx129_3 hx129_4 hx129_5 hx129_6 hHeld ⊢
        refine pure_ (i:=0) (N:=some 17) (v:=?_) (a':=?_) #[true,false,false,false,false,false,false,false,false,false] rfl rfl (any_of HT_.out (by kernel_rfl)) (fun _ _ _ h => h) (Or.inl ⟨by rfl,?_⟩) ?_ ?_
        rotate_left
        ·intro w'
         go_simp
         with_reducible rfl
        rotate_left
        ·simp only [Act.put,List.setIfInBounds_toArray,List.set_cons_zero,List.set_cons_succ,i64_w,i32_w]
         rfl
        refine pure_ (i:=1) (N:=some 18) (v:=?_) (a':=?_) #[true,true,false,false,false,false,false,false,false,false] rfl rfl (any_of HT_.out (by kernel_rfl)) (fun _ _ _ h => h) (Or.inl ⟨by rfl,?_⟩) ?_ ?_
        rotate_left
        ·intro w'
         go_simp
         with_reducible rfl
        rotate_left
        ·simp only [Act.put,List.setIfInBounds_toArray,List.set_cons_zero,List.set_cons_succ,i64_w,i32_w]
         rfl
        refine pure_ (i:=2) (N:=some 19) (v:=?_) (a':=?_) #[true,true,true,false,false,false,false,false,false,false] rfl rfl (any_of HT_.out (by kernel_rfl)) (fun _ _ _ h => h) (Or.inl ⟨by rfl,?_⟩) ?_ ?_
        rotate_left
        ·intro w'
         go_simp
         with_reducible rfl
        rotate_left
        ·simp only [Act.put,List.setIfInBounds_toArray,List.set_cons_zero,List.set_cons_succ,i64_w,i32_w]
         rfl
        refine pure_ (i:=4) (N:=some 21) (v:=?_) (a':=?_) #[true,true,true,false,true,false,false,false,false,false] rfl rfl (any_of HT_.out (by kernel_rfl)) (fun _ _ _ h => h) (Or.inl ⟨by rfl,?_⟩) ?_ ?_
        rotate_left
        ·intro w'
         go_simp
         with_reducible rfl
        rotate_left
        ·simp only [Act.put,List.setIfInBounds_toArray,List.set_cons_zero,List.set_cons_succ,i64_w,i32_w]
         rfl
        refine pure_ (i:=5) (N:=some 22) (v:=?_) (a':=?_) #[true,true,true,false,true,true,false,false,false,false] rfl rfl (any_of HT_.out (by kernel_rfl)) (fun _ _ _ h => h) (Or.inl ⟨by rfl,?_⟩) ?_ ?_
        rotate_left
        ·intro w'
         go_simp
         with_reducible rfl
        rotate_left
        ·simp only [Act.put,List.setIfInBounds_toArray,List.set_cons_zero,List.set_cons_succ,i64_w,i32_w]
         rfl
        refine pure_ (i:=6) (N:=some 23) (v:=?_) (a':=?_) #[true,true,true,false,true,true,true,false,false,false] rfl rfl (any_of HT_.out (by kernel_rfl)) (fun _ _ _ h => h) (Or.inl ⟨by rfl,?_⟩) ?_ ?_
        rotate_left
        ·intro w'
         go_simp
         with_reducible rfl
        rotate_left
        ·simp only [Act.put,List.setIfInBounds_toArray,List.set_cons_zero,List.set_cons_succ,i64_w,i32_w]
         rfl
        refine take_ (i:=3) (N:=some 20) (v:=?_) (a':=?_) #[true,true,true,true,true,true,true,false,false,false] rfl rfl (take_ofW HT_.out HW_.out (by kernel_rfl)) (fun _ _ _ h => h) (Or.inl ⟨by rfl,?_⟩) hHeld ?_ ?_
        rotate_left
        ·rintro w' ⟨s0,s1,s2,s3,s4,s5,s6,s7,s8,s9,s10,s11,s12,s13⟩
         go_simp
         with_reducible rfl
        rotate_left
        ·simp only [Act.put,List.setIfInBounds_toArray,List.set_cons_zero,List.set_cons_succ,i64_w,i32_w]
         rfl
        refine take_ (i:=7) (N:=some 24) (v:=?_) (a':=?_) #[true,true,true,true,true,true,true,true,false,false] rfl rfl (take_ofW HT_.out HW_.out (by kernel_rfl)) (fun _ _ _ h => h) (Or.inl ⟨by rfl,?_⟩) hHeld ?_ ?_
        rotate_left
        ·rintro w' ⟨s0,s1,s2,s3,s4,s5,s6,s7,s8,s9,s10,s11,s12,s13⟩
         go_simp
         with_reducible rfl
        rotate_left
        ·simp only [Act.put,List.setIfInBounds_toArray,List.set_cons_zero,List.set_cons_succ,i64_w,i32_w]
         rfl
        refine one_ (i:=8) (N:=some 25) #[true,true,true,true,true,true,true,true,true,false] rfl rfl (one_of HT_.out (by kernel_rfl)) (by decide) (fun K hK => ?_)
        refine goes_ Tryd.func20 (by kernel_rfl) rfl #[.agg #[.int .i64 ((rd_T24 l0 x5_1).f0),.string ((rd_T24 l0 x5_1).f1),.string ((rd_T24 l0 x5_1).f2),.string ((rd_T24 l0 x5_1).f3),.int .i64 ((rd_T24 l0 x5_1).f4),.slice A128_5 ((rd_T24 l0 x5_1).f5).length c128_5,.slice A128_6 ((rd_T24 l0 x5_1).f6).length c128_6],.agg #[.int .i64 ((rd_T24 l1 x5_1).f0),.string ((rd_T24 l1 x5_1).f1),.string ((rd_T24 l1 x5_1).f2),.string ((rd_T24 l1 x5_1).f3),.int .i64 ((rd_T24 l1 x5_1).f4),.slice A129_5 ((rd_T24 l1 x5_1).f5).length c129_5,.slice A129_6 ((rd_T24 l1 x5_1).f6).length c129_6]] (by rfl) rfl rfl (by (try simp only [List.map_toArray,List.map_cons,List.map_nil]); first | done | rfl | (simp only [List.length_drop,List.length_take]; rfl)) ?_
        with_reducible refine (counterpaneref08_Same.calls k1 ((rd_T24 l0 x5_1).f0) ((rd_T24 l0 x5_1).f1) ((rd_T24 l0 x5_1).f2) ((rd_T24 l0 x5_1).f3) ((rd_T24 l0 x5_1).f4) _ _ ((rd_T24 l0 x5_1).f5) _ _ ((rd_T24 l0 x5_1).f6) ((rd_T24 l1 x5_1).f0) ((rd_T24 l1 x5_1).f1) ((rd_T24 l1 x5_1).f2) ((rd_T24 l1 x5_1).f3) ((rd_T24 l1 x5_1).f4) _ _ ((rd_T24 l1 x5_1).f5) _ _ ((rd_T24 l1 x5_1).f6) false _ ?side1 ?side2 ?side3 ?side4 ?side5 ?side6 ?side7 ?side8 A7.out).mono ?_
        (case side1 => repeat (first | exact (Kd.C_below HR128_5.out HB.out) | (with_reducible refine Kd.C_alloc ?_ _) | (with_reducible refine Kd.C_drewN ?_ _) | (with_reducible refine Kd.C_drew ?_)))
        (case side2 => exact HC128_5.out)
        (case side3 => repeat (first | exact (Kd.C_below HR128_6.out HB.out) | (with_reducible refine Kd.C_alloc ?_ _) | (with_reducible refine Kd.C_drewN ?_ _) | (with_reducible refine Kd.C_drew ?_)))
        (case side4 => exact HC128_6.out)
        (case side5 => repeat (first | exact (Kd.C_below HR129_5.out HB.out) | (with_reducible refine Kd.C_alloc ?_ _) | (with_reducible refine Kd.C_drewN ?_ _) | (with_reducible refine Kd.C_drew ?_)))
        (case side6 => exact HC129_5.out)
        (case side7 => repeat (first | exact (Kd.C_below HR129_6.out HB.out) | (with_reducible refine Kd.C_alloc ?_ _) | (with_reducible refine Kd.C_drewN ?_ _) | (with_reducible refine Kd.C_drew ?_)))
        (case side8 => exact HC129_6.out)
        rintro e w12 ⟨rfl,hb⟩
        refine ⟨_,rfl,?_⟩
        have n0_:=Aside0.mk (below_step (by repeat (first | (with_reducible first | exact HB.out | apply below_alloc | apply pw_below_drewN | apply below_drew1) | exact HB.out)) hb)
        clear HB
        have HB:=n0_
        clear n0_
        (try clear hb)
        (try clear hb2)
        (try clear hk)
        (try clear hi)
        refine hK.out _ _ ⟨((HB.out.cell (World.block_lt_of_cell? w _ hw128_0)).trans hw128_0),((HB.out.cell (World.block_lt_of_cell? w _ hw128_1)).trans hw128_1),((HB.out.cell (World.block_lt_of_cell? w _ hw128_2)).trans hw128_2),((HB.out.cell (World.block_lt_of_cell? w _ hw128_3)).trans hw128_3),((HB.out.cell (World.block_lt_of_cell? w _ hw128_4)).trans hw128_4),((HB.out.cell (World.block_lt_of_cell? w _ hw128_5)).trans hw128_5),((HB.out.cell (World.block_lt_of_cell? w _ hw128_6)).trans hw128_6),((HB.out.cell (World.block_lt_of_cell? w _ hw129_0)).trans hw129_0),((HB.out.cell (World.block_lt_of_cell? w _ hw129_1)).trans hw129_1),((HB.out.cell (World.block_lt_of_cell? w _ hw129_2)).trans hw129_2),((HB.out.cell (World.block_lt_of_cell? w _ hw129_3)).trans hw129_3),((HB.out.cell (World.block_lt_of_cell? w _ hw129_4)).trans hw129_4),((HB.out.cell (World.block_lt_of_cell? w _ hw129_5)).trans hw129_5),((HB.out.cell (World.block_lt_of_cell? w _ hw129_6)).trans hw129_6)⟩ (fun hHeld => ?_)
        clear hK K
        refine norm_ (a':=?_) ?_ ?_
        rotate_left
        ·show Act.put _ (some 25) _ = _
         simp only [Act.put,List.setIfInBounds_toArray,List.set_cons_zero,List.set_cons_succ,i64_w,i32_w]
         rfl
        refine pure_ (i:=9) (N:=some 26) (v:=?_) (a':=?_) #[true,true,true,true,true,true,true,true,true,true] rfl rfl (any_of HT_.out (by kernel_rfl)) (fun _ _ _ h => h) (Or.inl ⟨by rfl,?_⟩) ?_ ?_
        rotate_left
        ·intro w'
         go_simp
         with_reducible rfl
        rotate_left
        ·simp only [Act.put,List.setIfInBounds_toArray,List.set_cons_zero,List.set_cons_succ,i64_w,i32_w]
         rfl
        refine done_ (done_of HT_.out (by kernel_rfl)) ?_
        try go_wp2
        go_ret
        exact ⟨by first | rfl | (simp [errW_none,errW_some] <;> rfl) | (simp [*,errW_none,errW_some] <;> rfl),by repeat (first | (with_reducible first | exact HB.out | apply below_alloc | apply pw_below_drewN | apply below_drew1) | exact HB.out)⟩
      ·rw [if_neg c6] at H
       exact absurd H (by simp)
     ·rw [if_neg c5] at H
      exact absurd H (by simp)
    ·rw [if_neg c4] at H
     have c4b0 : decide (x5_1 < (l0.length : Int)) = false:=decide_eq_false c4
     clear c4
     obtain rfl:=Option.some.inj H
     go_wp2
     go_ret
     exact ⟨by first | rfl | (simp [errW_none,errW_some] <;> rfl) | (simp [*,errW_none,errW_some] <;> rfl),by repeat (first | (with_reducible first | exact HB.out | apply below_alloc | apply pw_below_drewN | apply below_drew1) | exact HB.out)⟩
 ·rw [if_neg c3] at H
  have c3b0 : ((l0.length : Int) == (l1.length : Int)) = false:=beq_eq_false_iff_ne.mpr c3
  have c3b1 : ((l0.length : Int) != (l1.length : Int)) = true:=bne_iff_ne.mpr c3
  have c3b2 : (l0.length == l1.length) = false:=by first | simpa using c3 | (simp at c3 ⊢; omega)
  obtain rfl:=Option.some.inj H
  go_enter Tryd.func21,Tryd.ntmps21
  go_wp2
  go_ret
  exact ⟨by first | rfl | (simp [errW_none,errW_some] <;> rfl) | (simp [*,errW_none,errW_some] <;> rfl),by repeat (first | (with_reducible first | exact HB.out | apply below_alloc | apply pw_below_drewN | apply below_drew1) | exact HB.out)⟩

end Go.Proofs.YthhohbidjhcjeaaDoor.Q
