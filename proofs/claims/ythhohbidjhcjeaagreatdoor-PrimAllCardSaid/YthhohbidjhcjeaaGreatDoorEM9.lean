/- What the head of this seat's program says, told once for all rows. -/
import Derived.Test.YthhohbidjhcjeaaGreatDoorEWd
import Derived.Deep.Slices
import Derived.Deep.Fields
import Derived.ChangeSame
import Derived.ProofKit
import Derived.SizedLaws
import Derived.Test.YthhohbidjhcjeaaGreatDoorRows
import Derived.Test.YthhohbidjhcjeaaGreatDoorEM2
import Derived.WalkKit
namespace Go.Proofs.YthhohbidjhcjeaaGreatDoor.Op
open Go.ChangeShapes Go.WideShapes Go.Deep Go.RowKit Go.Proofs.YthhohbidjhcjeaaGreatDoorW.PrintWords Go.Proofs.YthhohbidjhcjeaaGreatDoorW.PrintMore
def Opens {α : Type} (P : Program) (t : TypeId) (d : Kd α) (good : α → Prop) : Prop :=
 ∀ (H : Type) (enc : TypeId × Value → H) (w : World) (base : Nat) (spare : Nat → Bool) (held : Bool) (fuel : Nat) (cs : List Value) (x : DataW H × List MemPlace),
  DataW.trod enc P w base spare held fuel t cs = some x → (∀ n ∈ x.1.weights P t,n ≤ reachBytes) → ∃ a,d.K w a cs ∧ good a
theorem opens_int {P : Program} {t : TypeId} {k : IntKind} (ht : P.underlying t = some (.int k)) : Opens P t (Kd.int k) (fun n => (Lit.int k n).wf = true):=by
 intro H enc w base spare held fuel cs x h hw
 obtain ⟨n,rfl,rfl,hn⟩:=DataW.trod_int ht h
 exact ⟨n,rfl,hn⟩
theorem opens_string {P : Program} {t : TypeId} (ht : P.underlying t = some .string) : Opens P t Kd.string (fun s => s.size ≤ 140737488351232):=by
 intro H enc w base spare held fuel cs x h hw
 obtain ⟨s,rfl,rfl,hn⟩:=DataW.trod_string ht h
 refine ⟨s,rfl,?_⟩
 have h2 : s.data.toList.length ≤ 140737488351232:=hw s.data.toList.length (by simp [DataW.weights])
 simpa using h2
theorem weightsAll_mem {H : Type} {P : Program} {e : TypeId} : ∀ {ds : List (DataW H)} {d : DataW H},d ∈ ds → ∀ n ∈ d.weights P e,n ∈ DataW.weightsAll P e ds
 | d0 :: ds,d,hd,n,hn => by
  rcases List.mem_cons.1 hd with rfl | hd
  ·simp only [DataW.weightsAll,List.mem_append]
   exact .inl hn
  ·simp only [DataW.weightsAll,List.mem_append]
   exact .inr (weightsAll_mem hd n hn)
 | [],_,hd,_,_ => by simp at hd
theorem opens_slice {α : Type} {P : Program} {t e : TypeId} {d : Kd α} {g : α → Prop} (b : Nat) (ht : P.underlying t = some (.slice e)) (he : Opens P e d g) (hc : P.cellsOf e = d.sz) (hb : P.bytesOf e = b) :
  Opens P t (Kd.slice e d) (fun xs => xs.length ≤ maxLen ∧ xs.length * b ≤ 140737488351232 ∧ ∀ x ∈ xs,g x):=by
 intro H enc w base spare held fuel cs x h hw
 rcases open_slice ht h with ⟨rfl,rfl⟩ | ⟨a,len,cap,m,n,D,Pl,rfl,_,hl,hm,hmm,rfl,hx⟩
 ·exact ⟨[],⟨none,0,rfl,Nat.le_refl _,Kd.C_nil d w⟩,Nat.zero_le _,by simp,by simp⟩
 ·have hlm : len ≤ m:=by rw [hmm]; split <;> omega
  have hwt : ((List.range len).map D).length * P.bytesOf e + ((List.range (m - len)).map fun j => D (len + j)).length * P.bytesOf e ≤ 140737488351232:=by
   have:=hw ((((List.range len).map D).length + ((List.range (m - len)).map fun j => D (len + j)).length) * P.bytesOf e) (by simp [DataW.weights,ht])
   rw [← Nat.add_mul]
   exact this
  have key : ∀ i,i < len → ∃ p : α,∃ cs',w.cells? base (a.add (i * P.cellsOf e)) (P.cellsOf e) = some cs' ∧ d.K w p cs' ∧ g p:=by
   intro i hi
   obtain ⟨cs',h1,h2⟩:=hx i (by omega)
   obtain ⟨p,hp,hg⟩:=he H enc w base spare held n cs' _ h2 (fun k hk => hw k (by
    simp only [DataW.weights,ht]
    refine List.mem_cons_of_mem _ (List.mem_append_left _ (weightsAll_mem (d:=D i) ?_ k hk))
    exact List.mem_map.2 ⟨i,List.mem_range.2 hi,rfl⟩))
   exact ⟨p,cs',h1,hp,hg⟩
  obtain ⟨f,hf⟩ : ∃ f : Nat → Option α,∀ i,i < len → ∃ p,f i = some p ∧ ∃ cs',w.cells? base (a.add (i * P.cellsOf e)) (P.cellsOf e) = some cs' ∧ d.K w p cs' ∧ g p:=by
   refine ⟨fun i => if h : i < len then some (key i h).choose else none,fun i hi => ⟨_,dif_pos hi,(key i hi).choose_spec⟩⟩
  have hlen : ((List.range len).filterMap f).length = len ∧ ∀ j p,((List.range len).filterMap f)[j]? = some p → j < len ∧ f j = some p:=by
   clear hwt hx hw h hl key hlm hmm
   induction len with
   | zero => simp
   | succ len ih =>
    obtain ⟨h1,h2⟩:=ih (fun i hi => hf i (by omega))
    obtain ⟨p,hp,_⟩:=hf len (by omega)
    rw [List.range_succ,List.filterMap_append]
    have e1 : List.filterMap f [len] = [p]:=by simp [hp]
    rw [e1]
    refine ⟨by simp [h1],fun j q hj => ?_⟩
    by_cases hjl : j < ((List.range len).filterMap f).length
    ·rw [List.getElem?_append_left hjl] at hj
     obtain ⟨h3,h4⟩:=h2 j q hj
     exact ⟨by omega,h4⟩
    ·rw [List.getElem?_append_right (by omega)] at hj
     have hj0 : j = len:=by
      have:=(List.getElem?_eq_some_iff.1 hj).1
      simp at this
      omega
     subst hj0
     rw [h1,Nat.sub_self] at hj
     simp only [List.getElem?_cons_zero,Option.some.injEq] at hj
     subst hj
     exact ⟨by omega,hp⟩
  obtain ⟨hlen,hget⟩:=hlen
  refine ⟨(List.range len).filterMap f,⟨some a,cap,by rw [hlen],by rw [hlen]; exact hl,?_⟩,?_,?_,?_⟩
  ·refine ⟨rfl,by rw [hlen]; have : maxLen = 9223372036854775807:=rfl; omega,fun _ => ⟨a,rfl,fun j p hj => ?_⟩⟩
   obtain ⟨hjl,hfj⟩:=hget j p hj
   obtain ⟨p',hp',cs',h1,h2,_⟩:=hf j hjl
   obtain rfl : p' = p:=Option.some.inj (hp'.symm.trans hfj)
   obtain ⟨_,hcl,hat⟩:=World.cells?_some h1
   refine ⟨cs',d.K_len h2,h2,fun i u hu => ?_⟩
   have hi : i < P.cellsOf e:=by
    have:=(List.getElem?_eq_some_iff.1 hu).1
    omega
   have h3:=hat i hi
   rw [hu,Go.Deep.add_add,hc] at h3
   exact h3
  ·rw [hlen]; exact Nat.le_trans hl hm
  ·rw [hlen,← hb]
   have : len * P.bytesOf e ≤ ((List.range len).map D).length * P.bytesOf e:=by simp
   omega
  ·intro p hp
   obtain ⟨j,hj⟩:=List.getElem?_of_mem hp
   obtain ⟨hjl,hfj⟩:=hget j p hj
   obtain ⟨p',hp',cs',h1,_,h2⟩:=hf j hjl
   obtain rfl : p' = p:=Option.some.inj (hp'.symm.trans hfj)
   exact h2

def OpensAt {α : Type} (P : Program) (fs : List Field) (off : Nat) (d : Kd α) (good : α → Prop) : Prop :=
 ∀ (H : Type) (enc : TypeId × Value → H) (w : World) (base : Nat) (spare : Nat → Bool) (held : Bool) (n : Nat) (cs : List Value) (xs : List (DataW H × List MemPlace)),
  (∀ (i : Nat) (f : Field),fs[i]? = some f → DataW.trod enc P w base spare held n f.type ((cs.drop f.offset).take (P.cellsOf f.type)) = xs[i]?) → xs.length = fs.length →
  (∀ n ∈ DataW.weightsEach P (fs.map (·.type)) (xs.map (·.1)),n ≤ reachBytes) → cs.length = off + d.sz → ∃ a,d.K w a (cs.drop off) ∧ good a
theorem opensAt_one {α : Type} {P : Program} {f : Field} {off : Nat} {d : Kd α} {g : α → Prop} (he : Opens P f.type d g) (ho : f.offset = off) (hc : P.cellsOf f.type = d.sz) : OpensAt P [f] off d g:=by
 intro H enc w base spare held n cs xs hx hl hw hcs
 obtain ⟨x,rfl⟩ : ∃ x,xs = [x]:=by
  match xs,hl with
  | [x],_ => exact ⟨x,rfl⟩
 have h0:=hx 0 f rfl
 rw [ho,hc,List.take_of_length_le (by simp; omega)] at h0
 exact he H enc w base spare held n _ x h0 (fun k hk => hw k (by simp [DataW.weightsEach,hk]))
theorem opensAt_cons {α β : Type} {P : Program} {f : Field} {fs : List Field} {off : Nat} {d : Kd α} {d' : Kd β} {g : α → Prop} {g' : β → Prop} (he : Opens P f.type d g) (ho : f.offset = off) (hc : P.cellsOf f.type = d.sz)
  (hr : OpensAt P fs (off + d.sz) d' g') : OpensAt P (f :: fs) off (Kd.pair d d') (fun x => g x.1 ∧ g' x.2):=by
 intro H enc w base spare held n cs xs hx hl hw hcs
 obtain ⟨x,xs,rfl⟩ : ∃ x xs',xs = x :: xs':=by
  match xs,hl with
  | x :: xs,_ => exact ⟨x,xs,rfl⟩
 have h0:=hx 0 f rfl
 rw [ho,hc] at h0
 have hsz : (Kd.pair d d').sz = d.sz + d'.sz:=rfl
 obtain ⟨a,ha,hga⟩:=he H enc w base spare held n _ x h0 (fun k hk => hw k (by simp [DataW.weightsEach,hk]))
 obtain ⟨b,hb,hgb⟩:=hr H enc w base spare held n cs xs (fun i q hq => hx (i + 1) q hq) (by simpa using hl) (fun k hk => hw k (by
  simp only [List.map_cons,DataW.weightsEach,List.mem_append]
  exact .inr hk)) (by omega)
 refine ⟨(a,b),⟨(cs.drop off).take d.sz,cs.drop (off + d.sz),?_,ha,hb⟩,hga,hgb⟩
 rw [← List.drop_drop,List.take_append_drop]
theorem opens_struct {α : Type} {P : Program} {t : TypeId} {fs : Array Field} {d : Kd α} {g : α → Prop} (ht : P.underlying t = some (.struct fs)) (hc : P.cellsOf t = d.sz) (hr : OpensAt P fs.toList 0 d g) : Opens P t d g:=by
 intro H enc w base spare held fuel cs x h hw
 obtain ⟨xs,n,rfl,rfl,hl,hxl,hx⟩:=DataW.trod_struct ht h
 have:=hr H enc w base spare held n cs xs (fun i f hf => hx i f (by simpa using hf)) (by simpa using hxl) (fun k hk => hw k (by simpa [DataW.weights,ht] using hk)) (by omega)
 simpa using this
theorem opens_iso {α β : Type} {P : Program} {t : TypeId} {d : Kd α} {g : α → Prop} (f : β → α) (inv : α → β) (hi : ∀ a,f (inv a) = a) (h : Opens P t d g) : Opens P t (Kd.iso d f) (fun b => g (f b)):=by
 intro H enc w base spare held fuel cs x h' hw
 obtain ⟨a,ha,hg⟩:=h H enc w base spare held fuel cs x h' hw
 exact ⟨inv a,by show d.K w (f (inv a)) cs; rw [hi]; exact ha,by show g (f (inv a)); rw [hi]; exact hg⟩
theorem opens_imp {α : Type} {P : Program} {t : TypeId} {d : Kd α} {g g' : α → Prop} (h : Opens P t d g) (hi : ∀ a,g a → g' a) : Opens P t d g':=by
 intro H enc w base spare held fuel cs x h' hw
 obtain ⟨a,ha,hg⟩:=h H enc w base spare held fuel cs x h' hw
 exact ⟨a,ha,hi a hg⟩
theorem opened {α : Type} {P : Program} {t : TypeId} {d : Kd α} {g : α → Prop} (h : Opens P t d g) {H : Type} {enc : TypeId × Value → H} {w : World} {base : Nat} {spare : Nat → Bool} {held : Bool} {v : Value} {x : DataW H} {ps : List MemPlace}
  {ts : List TypeId} {ds : List (DataW H)} {j : Nat} (hT : DataW.Trod enc P w base spare held t v x ps) (hs : (DataW.weightsEach P ts ds).all (· ≤ reachBytes) = true) (ht : ts[j]? = some t) (hd : ds[j]? = some x) : ∃ a,d.K w a v.cells.toList ∧ g a:=by
 obtain ⟨fuel,hf⟩:=hT
 exact h H enc w base spare held fuel _ (x,ps) hf (fun n hn => by simpa using List.all_eq_true.1 hs _ (DataW.weights_mem_each ht hd n hn))
end Go.Proofs.YthhohbidjhcjeaaGreatDoor.Op
namespace Go.Proofs.YthhohbidjhcjeaaGreatDoor.Od
open Go.ChangeShapes Go.WideShapes Go.ChangeAt Go.RowKit Go.Proofs.YthhohbidjhcjeaaGreatDoorW.PrintWords Go.Proofs.YthhohbidjhcjeaaGreatDoorW.PrintMore Go.Proofs.YthhohbidjhcjeaaGreatDoor.Q Go.Proofs.YthhohbidjhcjeaaGreatDoor.Op Go.Proofs.YthhohbidjhcjeaaGreatDoor.Pl
theorem own : ownKnob Tryz.prog.godebug = none:=by kernel_rfl
theorem laidOut : laidOutB Tryz.prog = true:=by kernel_rfl
def laidTabs : List (String × DataW Unit) := [("unicode/utf8.acceptRanges", Rows.laid_unicode_utf8_acceptRanges), ("unicode/utf8.first", Rows.laid_unicode_utf8_first)]
theorem o9 : Opens Tryz.prog 9 Kd.string (fun s => s.size ≤ 140737488351232):=opens_string (P:=Tryz.prog) (by kernel_rfl)
theorem o3 : Opens Tryz.prog 3 (Kd.int .i64) (fun n => (Lit.int .i64 n).wf = true):=opens_int (P:=Tryz.prog) (by kernel_rfl)
theorem o23 : Opens Tryz.prog 23 (Kd.slice 9 Kd.string) (fun xs => xs.length ≤ maxLen ∧ xs.length * 16 ≤ 140737488351232 ∧ ∀ x ∈ xs,x.size ≤ 140737488351232):=opens_slice (P:=Tryz.prog) 16 (by kernel_rfl) o9 (by kernel_rfl) (by kernel_rfl)
theorem o25 : Opens Tryz.prog 25 k25 Okp:=by
 refine opens_imp (opens_iso (fun x : S25 => (x.f0,x.f1,x.f2,x.f3,x.f4,x.f5,x.f6)) (fun x => ⟨x.1,x.2.1,x.2.2.1,x.2.2.2.1,x.2.2.2.2.1,x.2.2.2.2.2.1,x.2.2.2.2.2.2⟩) (fun _ => rfl) (opens_struct (P:=Tryz.prog) Tryz.underlying25 (by kernel_rfl)
  (opensAt_cons o3 rfl (by kernel_rfl) (opensAt_cons o9 rfl (by kernel_rfl) (opensAt_cons o9 rfl (by kernel_rfl) (opensAt_cons o9 rfl (by kernel_rfl) (opensAt_cons o3 rfl (by kernel_rfl) (opensAt_cons o23 rfl (by kernel_rfl) (opensAt_one o23 rfl (by kernel_rfl)))))))))) ?_
 rintro a ⟨_,h1,h2,h3,_,⟨_,h5,_⟩,⟨_,h6,_⟩⟩
 dsimp only at h1 h2 h3 h5 h6
 exact ⟨⟨by omega,by omega⟩,by omega,by omega,by omega⟩
theorem o34 : Opens Tryz.prog 34 (Kd.slice 25 k25) (fun xs => xs.length ≤ maxLen ∧ xs.length * 112 ≤ 140737488351232 ∧ ∀ x ∈ xs,Okp x):=opens_slice (P:=Tryz.prog) 112 (by kernel_rfl) o25 (by kernel_rfl) (by kernel_rfl)
structure Oke (x : S41) : Prop where
 n : x.f2.length ≤ 140737488355328
 p : x.f0.size ≤ 140737488355328
 d : x.f3.size ≤ 140737488355328
 t : ∀ s ∈ x.f2,s.size ≤ 140737488355328
theorem o41 : Opens Tryz.prog 41 k41 Oke:=by
 refine opens_imp (opens_iso (fun x : S41 => (x.f0,x.f1,x.f2,x.f3)) (fun x => ⟨x.1,x.2.1,x.2.2.1,x.2.2.2⟩) (fun _ => rfl) (opens_struct (P:=Tryz.prog) Tryz.underlying41 (by kernel_rfl)
  (opensAt_cons o9 rfl (by kernel_rfl) (opensAt_cons o3 rfl (by kernel_rfl) (opensAt_cons o23 rfl (by kernel_rfl) (opensAt_one o9 rfl (by kernel_rfl))))))) ?_
 rintro a ⟨h0,_,⟨_,h2,h2t⟩,h3⟩
 dsimp only at h0 h2 h2t h3
 exact ⟨by omega,by omega,by omega,fun s hs => Nat.le_trans (h2t s hs) (by decide)⟩
theorem o22 : Opens Tryz.prog 22 (Kd.slice 41 k41) (fun xs => xs.length ≤ maxLen ∧ xs.length * 64 ≤ 140737488351232 ∧ ∀ x ∈ xs,Oke x):=opens_slice (P:=Tryz.prog) 64 (by kernel_rfl) o41 (by kernel_rfl) (by kernel_rfl)
open Go.RowKit
set_option maxRecDepth 100000 in
set_option maxHeartbeats 4000000 in
theorem heads : Tryz.prog.mayEnter = true ∧ Tryz.prog.liftsFinal = Rows.invertUndoesRow.lifted ∧ Tryz.prog.make = some Rows.invertUndoesRow.make ∧ Tryz.prog.mainIs = some (true, "b2c3b2d2b50221d5631762a848752805bff427337fd1c8fab364110e20b5edb9".toList) := by
 have h : Tryz.prog.initOrder = String.ofList _:=rfl
 refine ⟨?_,?_,?_,?_⟩
 ·unfold Program.mayEnter
  rw [h,String.toList_ofList]
  decide +kernel
 ·unfold Program.liftsFinal Program.headLifts
  rw [h,String.toList_ofList]
  decide +kernel
 ·unfold Program.make
  rw [h,String.toList_ofList]
  decide +kernel
 ·unfold Program.mainIs
  rw [h,String.toList_ofList]
  decide +kernel
end Go.Proofs.YthhohbidjhcjeaaGreatDoor.Od
