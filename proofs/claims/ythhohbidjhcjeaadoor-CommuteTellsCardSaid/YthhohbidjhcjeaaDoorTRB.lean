/- The law of a loop over an iterator that keeps its own state in boxes which were laid ahead of the loop. -/
import Derived.RangeFuncNested
import Derived.RangeFuncBound
import Derived.RangeFuncLeaves
namespace Go.Proofs.YthhohbidjhcjeaaDoor.RB
open Go Go.RowKit
variable {F : Fence} {n : Nat} {P : Program}

/-- What is said stays said behind the iterator's own steps: a new block; an object of its walk; a store into a box of Z. -/
def AbidesZ {β : Type} (Z : Nat → Prop) (B : Nat) (J : β → World → Prop) : Prop :=
 ∀ (s : β) (W W' : World) (row : Option Nat),J s W → W.grownBy W' row → (∀ r,row = some r → (B ≤ r ∧ ∃ o : Obj,W.heap[r]? = some o ∧ o.isWalk = true) ∨ Z r) → J s W'
def OwnZ {β : Type} (Z : Nat → Prop) (B : Nat) (I : β → World → Prop) : Prop :=
 ∀ (s : β) (W W' : World) (row : Option Nat),I s W → W.grownBy W' row → (∀ r,row = some r → (B ≤ r ∧ ∃ o : Obj,W.heap[r]? = some o ∧ o.isCells = false) ∨ Z r) → I s W'
theorem OwnZ.from {β : Type} {Z : Nat → Prop} {B : Nat} {I : β → World → Prop} (h : OwnZ Z B I) : OwnFrom B I:=fun s W W' row hs hg hr => h s W W' row hs hg (fun r e => .inl (hr r e))
/-- The contract of an iterator with boxes Z. -/
def SeqZ {α : Type} (F : Fence) (n : Nat) (P : Program) (g : Nat) (lb : Array Value) (encs : α → Array Value) (Kp : World → World → Prop) (Z : Nat → Prop) (S Sp : List α → Prop) (N : Nat) (w : World) : Prop :=
 ∀ (l : Nat) (J Jx : List α → World → Prop) (W : World),Below w.heap.size w W → AbidesZ Z W.heap.size J → AbidesZ Z W.heap.size Jx →
  (∀ pre x W1,J pre W1 → pre.length < N → YieldAt F (n - 1) P l (encs x) W1 fun e W' =>
   (e = .returned (.bool true) ∧ J (pre ++ [x]) W' ∧ Kp W1 W') ∨ (e = .returned (.bool false) ∧ Jx (pre ++ [x]) W')) →
  J [] W →
  CallsIn F n P g (#[.func (.yield l) #[] #[]] ++ lb) W fun e W' => (∃ v,e = .returned v) ∧ ((∃ xs,S xs ∧ J xs W') ∨ (∃ pre,Sp pre ∧ Jx pre W'))

/-- How a round may be left. -/
def postZ {α : Type} (B : Nat) (Kp : World → World → Prop) (I : List α → World → Prop) (Ix : Code → List α → World → Prop) (xs : List α) (W : World) : Exit → Act → World → Prop
 | .normal,_,W' => KeepsFrom B W W' ∧ Kp W W' ∧ I xs W'
 | .ret,_,W' => KeepsFrom B W W' ∧ Ix .ret xs W'
 | _,_,_ => False

theorem wpIn_rangeFunc_boxes {α : Type} {g : Operand} {ps : Array Tmp} {assign body : Code} {Q : Exit → Act → World → Prop} {a : Act} {w : World}
  (hro : F.round = none) (h1 : 1 ≤ n) {gf : Nat} {lb : Array Value} (hg : a.eval g = .func (.func gf) #[] lb) (hFg : F.fn gf) (eg : ∀ args w,(callFunc gf args).run P w = .ok (.enter gf args) w)
  {encs : α → Array Value} {Kp : World → World → Prop} {Z : Nat → Prop} {S Sp : List α → Prop} {N : Nat} {w0 : World} (hseq : SeqZ F (n - 1) P gf lb encs Kp Z S Sp N w0) (hZ : ∀ r,Z r → r < w.heap.size)
  (hKt : ∀ {A B C : World},Kp A B → Kp B C → Kp A C) (hKb : ∀ (W : World) (l : Nat) (o o' : Obj),w.heap.size ≤ l → W.heap[l]? = some o → o.isCells = false → o.isWalk = false → Kp W (W.putObj l o')) (hb0 : Below w0.heap.size w0 w) (hps : ∀ x,(encs x).size = ps.size)
  (I : List α → World → Prop) (Ix : Code → List α → World → Prop) (hI : OwnZ Z w.heap.size I) (hIx : ∀ c,OwnZ Z w.heap.size (Ix c)) (h0 : I [] w) (a₁ : α → Act)
  (hassign : ∀ (l : Nat) (x : α) (W : World) (K : Act → World → Prop),K (a₁ x) W →
   assign.wpIn (F.inRound l) (n - 1 - 1) P (Exit.then K (fun _ _ _ => False)) { tmps:=(ps.zip (encs x)).foldl (fun t (p,v) => t.setIfInBounds p v) a.tmps,defers:=[] } W)
  (hbody : ∀ (l : Nat) (pre : List α) (x : α) (W : World),I pre W → pre.length < N → body.wpIn (F.inRound l) (n - 1 - 1) P (postZ w.heap.size Kp I Ix (pre ++ [x]) W) (a₁ x) W)
  (hdone : ∀ (D : Nat) (xs : List α) (W : World),w.heap.size ≤ D → S xs → I xs W → W.heap[D]? = some (.deferred (some [])) → Q .normal { a with defers:={ target:=.collected D,args:=#[] } :: a.defers } W)
  (hstop : ∀ (D : Nat) (pre : List α) (W : World),w.heap.size ≤ D → Sp pre → Ix .ret pre W → W.heap[D]? = some (.deferred (some [])) → (Code.ret).wpIn F n P Q { a with defers:={ target:=.collected D,args:=#[] } :: a.defers } W) :
  (Code.rangeFunc g ps assign body).wpIn F n P Q a w:=by
 refine wpIn_rangeFunc fun fn hfn => ?_
 rw [hro]
  -- the two blocks of book-keeping: the deferred calls, the loop's record
 obtain ⟨rec,hrec⟩ : ∃ rec : LoopState → Option Code → Loop,rec = fun st pe => { state:=st,pending:=pe,fn,tmps:=a.tmps,params:=ps,assign,body,defers:=w.heap.size }:=⟨_,rfl⟩
 obtain ⟨V,hV⟩ : ∃ V,(w.alloc (.deferred (some []))).alloc (.loop (rec .ready none)) = V:=⟨_,rfl⟩
 have vL : V.heap[w.heap.size + 1]? = some (.loop (rec .ready none)):=by
  have h:=World.alloc_heap_new (w.alloc (.deferred (some []))) (.loop (rec .ready none))
  rw [World.size_alloc,hV] at h
  exact h
 have vD : V.heap[w.heap.size]? = some (.deferred (some [])):=by
  rw [← hV]
  exact (Below.heap_alloc _ _ _ (by simp)).trans (World.alloc_heap_new w _)
 have vS : V.heap.size = w.heap.size + 2:=by rw [← hV]; simp
 have vI : I [] V:=by rw [← hV]; exact hI.from.alloc _ (hI.from.alloc _ h0)
 have vB : Below w0.heap.size w0 V:=by
  rw [← hV]
  exact hb0.trans ((((Below.refl _ w).alloc (Nat.le_refl _) _).alloc (by simp) _).mono hb0.size)
  -- an object that holds no cells, or the two blocks, are no matter of the iterator's
 have keep : ∀ {X Y : World} {row : Option Nat} {k : Nat} {o : Obj},X.grownBy Y row → (∀ r,row = some r → (V.heap.size ≤ r ∧ ∃ o : Obj,X.heap[r]? = some o ∧ o.isWalk = true) ∨ Z r) → w.heap.size ≤ k → k < w.heap.size + 2 → X.heap[k]? = some o → Y.heap[k]? = some o:=by
  intro X Y row k o hg' hr h1 h2 hk
  refine (hg'.block k (Array.getElem?_eq_some_iff.1 hk).1 (fun e => ?_)).trans hk
  rcases hr k e.symm with ⟨h3,_⟩ | h3
  ·omega
  ·have:=hZ k h3
   omega
 have less : ∀ {X : World} {row : Option Nat},(∀ r,row = some r → (V.heap.size ≤ r ∧ ∃ o : Obj,X.heap[r]? = some o ∧ o.isWalk = true) ∨ Z r) → ∀ r,row = some r → (w.heap.size ≤ r ∧ ∃ o : Obj,X.heap[r]? = some o ∧ o.isCells = false) ∨ Z r:=by
  intro X row hr r e
  rcases hr r e with ⟨h3,o,ho,hw⟩ | h3
  ·exact .inl ⟨by omega,o,ho,Obj.not_cells_of_walk hw⟩
  ·exact .inr h3
 refine ⟨w.heap.size + 1,[{ target:=.collected w.heap.size,args:=#[] }],V,{ target:=.fn (.func gf) lb,args:=#[.func (.yield (w.heap.size + 1)) #[] #[]] },V,gf,
  #[.func (.yield (w.heap.size + 1)) #[] #[]] ++ lb,V,?_,?_,?_,?_,fun _ => h1,?_⟩
 ·rw [← hV,hrec]; exact run_enterLoop_outer _ _ _ _ _
 ·simp only [resolve,hg]; simp [go_sem]
 ·intro f' hf'; simp [Target.leads] at hf'; subst hf'; exact hFg
 ·simp [invoke,go_sem,eg]
 refine (hseq (w.heap.size + 1)
  (fun pre W => I pre W ∧ W.heap[w.heap.size + 1]? = some (.loop (rec .ready none)) ∧ W.heap[w.heap.size]? = some (.deferred (some [])))
  (fun pre W => Ix .ret pre W ∧ W.heap[w.heap.size + 1]? = some (.loop (rec .done (some .ret))) ∧ W.heap[w.heap.size]? = some (.deferred (some [])))
  V vB
  (fun s X Y row hs hg' hr => ⟨hI s X Y row hs.1 hg' (less hr),keep hg' hr (by omega) (by omega) hs.2.1,keep hg' hr (by omega) (by omega) hs.2.2⟩)
  (fun s X Y row hs hg' hr => ⟨hIx .ret s X Y row hs.1 hg' (less hr),keep hg' hr (by omega) (by omega) hs.2.1,keep hg' hr (by omega) (by omega) hs.2.2⟩)
  ?round ⟨vI,vL,vD⟩).mono ?behind
 case round =>
  rintro pre x W ⟨hi,hl,hk⟩ hlen
  have hlt : w.heap.size + 1 < W.heap.size:=(Array.getElem?_eq_some_iff.1 hl).1
  have hy:=run_yield (P:=P) (args:=encs x) hl (by rw [hrec]; exact hps x)
  rw [hrec] at hy
  refine ⟨fn,_,assign,body,hy,roundIn_of_wpIn hfn (hassign _ x W _ ?_)⟩
  refine ⟨_,run_beginRound hl (by rw [hrec]),?_⟩
  obtain ⟨X,hX⟩ : ∃ X,W.putObj (w.heap.size + 1) (.loop { rec .ready none with state:=.busy }) = X:=⟨_,rfl⟩
  have xL : X.heap[w.heap.size + 1]? = some (.loop { rec .ready none with state:=.busy }):=by rw [← hX]; exact World.putObj_heap_same hlt
  have xD : X.heap[w.heap.size]? = some (.deferred (some [])):=by rw [← hX]; exact (World.putObj_heap_other (by omega)).trans hk
  have xK : Kp W X:=by rw [← hX]; exact hKb _ _ _ _ (by omega) hl rfl rfl
  have xI : I pre X:=by rw [← hX]; exact hI.from.putObj _ hi (by omega) hl rfl
  rw [hX]
  refine wpIn_mono (hbody _ pre x X xI hlen) ?_
    -- the round's end: the record is written back
  have fin : ∀ (jump : Option Code) (Y : World),KeepsFrom w.heap.size X Y →
    (Instr.endRound (w.heap.size + 1) jump).run P Y = .ok (.bool jump.isNone) (Y.putObj (w.heap.size + 1) (.loop (rec (if jump.isNone then .ready else .done) jump))) ∧
    Y.heap[w.heap.size + 1]? = some (.loop { rec .ready none with state:=.busy }) ∧
    (Y.putObj (w.heap.size + 1) (.loop (rec (if jump.isNone then .ready else .done) jump))).heap[w.heap.size + 1]? = some (.loop (rec (if jump.isNone then .ready else .done) jump)) ∧
    (Y.putObj (w.heap.size + 1) (.loop (rec (if jump.isNone then .ready else .done) jump))).heap[w.heap.size]? = some (.deferred (some [])):=by
   intro jump Y hk3
   have yL:=hk3.same _ _ (by omega) xL rfl
   have e:=run_endRound (P:=P) jump yL
   rw [hrec] at e ⊢
   exact ⟨e,by rw [hrec] at yL; exact yL,World.putObj_heap_same (Array.getElem?_eq_some_iff.1 yL).1,(World.putObj_heap_other (by omega)).trans (hk3.same _ _ (Nat.le_refl _) xD rfl)⟩
  intro e a3 Y hp
  cases e with
  | normal =>
   obtain ⟨q1,q2,q3⟩:=hp
   obtain ⟨r1,r2,r3,r4⟩:=fin none Y q1
   exact ⟨_,_,r1,.inl ⟨rfl,⟨hI.from.putObj _ q3 (by omega) r2 rfl,r3,r4⟩,hKt xK (hKt q2 (hKb _ _ _ _ (by omega) r2 rfl rfl))⟩⟩
  | ret =>
   obtain ⟨q1,q3⟩:=hp
   obtain ⟨r1,r2,r3,r4⟩:=fin (some .ret) Y q1
   exact ⟨_,_,r1,.inr ⟨rfl,(hIx .ret).from.putObj _ q3 (by omega) r2 rfl,r3,r4⟩⟩
  | exit id => exact hp.elim
  | goto t => exact hp.elim
  | panic ch => exact hp.elim
  | outgrown => exact hp.elim
 case behind =>
  rintro e Y ⟨⟨v,rfl⟩,(⟨xs,hS,hi,hl,hk⟩ | ⟨pre,hSp,hi,hl,hk⟩)⟩
  ·have e:=run_endLoop (P:=P) hl (by rw [hrec]; simp)
   rw [hrec] at e
   exact ⟨none,_,e,hdone _ xs _ (Nat.le_refl _) hS (hI.from.putObj _ hi (by omega) hl rfl) ((World.putObj_heap_other (by omega)).trans hk)⟩
  ·have e:=run_endLoop (P:=P) hl (by rw [hrec]; simp)
   rw [hrec] at e
   exact ⟨some .ret,_,e,hstop _ pre _ (Nat.le_refl _) hSp ((hIx .ret).from.putObj _ hi (by omega) hl rfl) ((World.putObj_heap_other (by omega)).trans hk)⟩
end Go.Proofs.YthhohbidjhcjeaaDoor.RB
