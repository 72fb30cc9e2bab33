/- Rows of the call's own whose elements lead to elder blocks alone: what is kept of them, and how they grow. -/
import Derived.Test.YthhohbidjhcjeaaDoorWNEv
import Derived.Test.YthhohbidjhcjeaaDoorWMore
import Derived.Maps.OwnIn
namespace Go.Proofs.YthhohbidjhcjeaaDoorW.PrintWords
open Go.RowKit
namespace Kd
section
variable {α : Type} {d : Kd α} {e base : Nat} {B : Nat → Prop} {w w1 W : World} {v v1 : Value} {xs : List α}
/-- A row of the call's own; what its elements lead to lies in B. -/
def NN {α : Type} (d : Kd α) (e : Nat) (w : World) (base : Nat) (B : Nat → Prop) (v : Value) (xs : List α) : Prop := OwnRow (fun x c => FK d w B x c) e d.sz w base v xs
theorem NN_nil (d : Kd α) (e : Nat) (w : World) (base : Nat) (B : Nat → Prop) : NN d e w base B (.slice none 0 0) [] := OwnRow.none_ _ _ _ _ _
theorem NN_step (h : NN d e w base B v xs) (hB : ∀ k, B k → k < w.heap.size → w1.heap[k]? = w.heap[k]?) (hv : ∀ k, v.ownBlock = some k → w1.heap[k]? = w.heap[k]?) : NN d e w1 base B v xs := by
  obtain ⟨inner, ho, hr⟩ := h
  exact ⟨inner, own_move ho hv, hr.imp_ (fun _ _ hp => FK_step hp hB)⟩
theorem NN_below (h : NN d e w base B v xs) (hb : Below w.heap.size w w1) : NN d e w1 base B v xs := by
  have ho := h
  obtain ⟨inner, ho, _⟩ := ho
  exact NN_step h (fun k _ hk => hb.block k hk) (fun k hk => hb.block k (own_lt ho k hk))
theorem NN_far (h : NN d e w base B v xs) (hB : ∀ k, B k → k < base) {p : Addr} (hp : base ≤ p.block) (hv : v.ownBlock ≠ some p.block) (u : Value) : NN d e (w.setCell p u) base B v xs :=
  NN_step h (fun k hk _ => Below.heap_setCell w p u k (fun e => by have := hB k hk; omega)) (fun k hk => Below.heap_setCell w p u k (fun e => hv (by rw [hk, e])))
theorem NN_typed (h : NN d e w base B v xs) : ∀ k, v.ownBlock = some k → ∃ cells, w.heap[k]? = some (.cells cells e (0, 0)) := by
  obtain ⟨inner, ho, _⟩ := h
  exact own_typed ho
theorem NN_base (h : NN d e w base B v xs) : ∀ k, v.ownBlock = some k → base ≤ k := by
  obtain ⟨inner, ho, _⟩ := h
  exact own_base ho
theorem NN_lt (h : NN d e w base B v xs) : ∀ k, v.ownBlock = some k → k < w.heap.size := by
  obtain ⟨inner, ho, _⟩ := h
  exact own_lt ho
/-- A block that is no row of such elements is turned (no cells; or a box). -/
theorem NN_grown (h : NN d e w base B v xs) (hB : ∀ k, B k → k < base) {row : Option Nat} (hg : w.grownBy w1 row) (hrow : ∀ r, row = some r → base ≤ r ∧ v.ownBlock ≠ some r) : NN d e w1 base B v xs :=
  NN_step h (fun k hk hlt => hg.block k hlt (fun e => by have := (hrow k e.symm).1; have := hB k hk; omega)) (fun k hk => hg.block k (NN_lt h k hk) (fun e => (hrow k e.symm).2 hk))
theorem NN_N (h : NN d e w base B v xs) (hB : ∀ k, B k → k < base) : N d e w base (fun k => B k ∨ base ≤ k) v xs := by
  have hb := NN_base h
  obtain ⟨inner, ho, hr⟩ := h
  refine ⟨fun k hk => .inr (hb k hk), chunks d.sz xs.length inner, chunks_length _ _ _, ⟨fun k hk => hk.symm, inner, by rw [chunks_length]; exact ho, reps_raw hr (fun x c hp => (FK_raw hp).2)⟩, fun j x c hx hc => ?_⟩
  rw [chunks_get hc]
  exact FK_mono (hr.2 j x hx) (fun k hk => ⟨.inl hk, fun e => by have := hb k e.symm; have := hB k hk; omega⟩)
theorem NN_own (h : NN d e W base B v xs) : ∃ inner, W.ownsRow base e d.sz v xs.length inner ∧ Reps (fun x c => FK d W B x c) d.sz xs inner := h
theorem NN_append {inner : List Value} (ho : W.ownsRow base e d.sz v xs.length inner) (hr : Reps (fun x c => FK d W B x c) d.sz xs inner) (hB : ∀ k, B k → k < base) {p : α} {c : List Value} (hp : FK d W B p c)
    (ho1 : w1.ownsRow base e d.sz v1 (xs.length + 1) (inner ++ c)) (hg : W.grownBy w1 v.ownBlock) : NN d e w1 base B v1 (xs ++ [p]) := by
  have hne : ∀ k, B k → k < W.heap.size → w1.heap[k]? = W.heap[k]? := fun k hk hlt => hg.block k hlt (fun e => by have := own_base ho k e.symm; have := hB k hk; omega)
  refine ⟨inner ++ c, by rw [List.length_append, List.length_singleton]; exact ho1, ?_⟩
  exact (hr.imp_ (fun _ _ hq => FK_step hq hne)).snoc (FK_step hp hne) (FK_raw hp).2.1
end
end Kd
end Go.Proofs.YthhohbidjhcjeaaDoorW.PrintWords
namespace Go
/-- append onto a row of the call's own, at an operation of a region that draws its order, inside a fence. -/
theorem stepIn_append_own_at {F : Fence} {nF : Nat} {P : Program} {w : World} {ops : Array Oper} {o : Oper} {a : Act} {K : Act → World → Prop} {Q : Exit → Act → World → Prop} (hgd : o.guard = none) (s x : Operand) (t : TypeId)
    (ho : o.op = .call { callee := .builtin .append, args := #[s, x], argTypes := #[t, t] })
    (base : Nat) (e : TypeId) (i : TypeInfo) (z : Value) (size bytes : Nat) (ht : P.underlying t = some (.slice e)) (hi : P.info? e = some i) (hz : i.zero = some z)
    (hsize : i.size = size) (hby : i.bytes = bytes) (hzs : z.cells.size = size) (hsz : 0 < size)
    (v : Value) (n : Nat) (xs : List Value) (hs : a.eval s = v) (hown : w.ownsRow base e size v n xs)
    (ad : Addr) (m c : Nat) (news : List Value) (hx : a.eval x = .slice (some ad) m c) (hl : news.length = m * size) (hnews : ∀ j u, news[j]? = some u → w.cell? (ad.add j) = some u) (h1 : ∀ u ∈ news, u.oneCell' = true)
    (h63 : n + m ≤ maxLen) (hbytes : (n + m) * bytes ≤ 140737488355328) (hbase : base ≤ w.heap.size)
    (h : ∀ v' w', w'.ownsRow base e size v' (n + m) (xs ++ news) → w.grownBy w' v.ownBlock → (v' = .slice none 0 0 ↔ v = .slice none 0 0 ∧ m = 0) → (v'.ownBlock = v.ownBlock ∨ v'.ownBlock = some w.heap.size) → K (a.put o.dst v') w') :
    if Region.wanted o (yielded ops a.tmps) = true then Oper.wpIn F nF P o a w K Q else ((∀ f, o.about P w a.eval = some f → F.fn f) ∧ K (a.put o.dst undef) w) := by
  have hw : Region.wanted o (yielded ops a.tmps) = true := by simp only [Region.wanted, hgd]
  rw [if_pos hw]
  obtain ⟨v', w', hr, h2, h3, h4, h5⟩ := run_append_own_at (P := P) w base t o.type e i z size bytes ht hi hz hsize hby hzs hsz v n xs hown ad m c news hl hnews h1 h63 hbytes hbase
  unfold Oper.wpIn
  refine ⟨by simp [Oper.about, ho, resolve, Target.leads, Sem.run_pure], ?_⟩
  rw [Oper.semAt_plain F _ _ (by rw [ho]; intro c hc'; cases hc')]
  simp [execOp, ho, resolve, invoke, builtin, hs, hx, hr, Result.andThen]
  exact h v' w' h2 h3 h4 h5
end Go
