/- Calls and appends beside the known ranges, as steps of a walk. Nothing of the program. -/
import Derived.Test.YtmoafjgogbcoeaaSlRow
namespace Go.Proofs.Ytmoafjgogbcoeaa
open Go.RowKit
set_option linter.unusedVariables false
/-- What the caller of a method behind a pointer holds. -/
theorem St.callT {B o n b q : Nat} {w W W' : World} {es es' : List Ent} {cs cs' : Array Value} (h : St B o n w es W) (hu : Upd es b q cs cs' es') (hr : W'.rangeAt b q cs'.toList) (ht : Touch b q cs.size W W') (hl : cs'.size = cs.size) : St B o n w es' W' := h.put hu hl ht hr
theorem St.done {B o : Nat} {c c' : Array Value} {w W : World} {n : Nat} {es : List Ent} (h : St B o n w (⟨B, o, true, c⟩ :: es) W) (hc : c = c') : W.rangeAt B o c'.toList ∧ Touch B o n w W := ⟨hc ▸ h.range (.head _), h.touch⟩
theorem to_boxT {P : Program} {ops : Array Oper} {rest : List Oper} {a : Act} {Q : Exit → Act → World → Prop} {w : World} {dst : Option Tmp} {T ty : TypeId} {x : Operand} {pos : String} {aft : Array Edge} {g : Option (Nat × Bool)} (n : Nat) (_ : (T == n) = true)
    (h : Wl P ops Q ({ dst := dst, op := .box T x, type := ty, pos := pos, after := aft, guard := g } :: rest) a w) : wpList P ops Q ({ dst := dst, op := .box T x, type := ty, pos := pos, after := aft, guard := g } :: rest) a w := h.of
/-- Which next operation it is. -/
theorem to_app {P : Program} {ops : Array Oper} {rest : List Oper} {a : Act} {Q : Exit → Act → World → Prop} {w : World} {dst : Option Tmp} {ty t u : TypeId} {s x : Operand} {pos : String} {aft : Array Edge} {g : Option (Nat × Bool)}
    (h : Wl P ops Q ({ dst := dst, op := .call { callee := .builtin .append, args := #[s, x], argTypes := #[t, u] }, type := ty, pos := pos, after := aft, guard := g } :: rest) a w) : wpList P ops Q ({ dst := dst, op := .call { callee := .builtin .append, args := #[s, x], argTypes := #[t, u] }, type := ty, pos := pos, after := aft, guard := g } :: rest) a w := h.of
section
variable {P : Program} {ops : Array Oper} {rest : List Oper} {a : Act} {Q : Exit → Act → World → Prop} {B o n : Nat} {w W : World} {es E : List Ent} {dst : Option Tmp} {ty t tx : TypeId} {s x : Operand} {pos : String} {aft : Array Edge}
/-- 'append' onto a slice of the call's own. -/
theorem Wl_app {v : Value} {vs : List Value} (hS : St B o n w (es ++ E) W) (hO : Own v vs E) (e : TypeId) (i : TypeInfo) (z : Value) (bytes : Nat) (ht : P.underlying t = some (.slice e)) (hi : P.info? e = some i) (hz : i.zero = some z)
    (hsize : i.size = 1) (hby : i.bytes = bytes) (hzc : z.cells = #[z]) (hv : a.eval s = v) (m : Nat) (ms : List Value) (hs : Src P 1 tx (a.eval x) m ms W) (hmax : vs.length + m ≤ maxLen) (hbytes : (vs.length + m) * bytes ≤ 140737488355328)
    (h : ∀ v' E' W', Own v' (vs ++ ms) E' → St B o n w (es ++ E') W' → wpList P ops Q rest (a.put dst v') W') :
    Wl P ops Q ({ dst := dst, op := .call { callee := .builtin .append, args := #[s, x], argTypes := #[t, tx] }, type := ty, pos := pos, after := aft, guard := none } :: rest) a W := by
  obtain ⟨v', E', W', hr, h2, h3⟩ := run_append_st (ty := ty) hS hO t tx e i z bytes ht hi hz hsize hby hzc (a.eval x) m ms hs hmax hbytes
  refine Wl.mk (wpList_plain rfl fun K' hK' => ?_)
  unfold Oper.wp execOp
  simp only [resolve, invoke, builtin, Sem.run_bind, Sem.run_pure, Result.andThen_ok, List.map_toArray, List.map_cons, List.map_nil, hv, hr]
  exact hK' _ _ (h v' E' W' h2 h3)
end
theorem St.src {P : Program} {B o n : Nat} {w W : World} {es : List Ent} {tx e' : TypeId} {b q : Nat} {fr : Bool} {cs : Array Value} (hS : St B o n w es W) (hm : (⟨b, q, fr, cs⟩ : Ent) ∈ es) (hk : P.underlying tx = some (.slice e')) (h1 : cs.all (·.oneCell') = true) (c : Nat) : Src P 1 tx (.slice (some ⟨b, q, none⟩) cs.size c) cs.size cs.toList W :=
  Src.ofSlice W hk _ _ _ _ (by simp) (fun j u hu => by rw [Addr.add_lit]; exact hS.range hm j u hu) (fun u hu => by
    rw [Array.all_eq_true_iff_forall_mem] at h1
    exact h1 u (by simpa using hu))
theorem ints_one (k : IntKind) (L : List Int) : ∀ u ∈ ints k L, u.oneCell' = true := fun u hu => by
  obtain ⟨x, _, rfl⟩ := List.mem_map.1 hu
  rfl
theorem Ls.src {P : Program} {F : Nat} {W : World} {s : Value} {vs : List Value} {tx e' : TypeId} (h : Ls F W s vs) (hk : P.underlying tx = some (.slice e')) (h1 : ∀ u ∈ vs, u.oneCell' = true) : Src P 1 tx s vs.length vs W := by
  by_cases hv : vs = []
  · subst hv
    obtain ⟨A, c, rfl, _⟩ := h.shp
    cases A with
    | none => exact Src.ofNil W hk c
    | some x => exact Src.ofSlice W hk x 0 c [] rfl (fun j u hu => by simp at hu) h1
  · obtain ⟨b, q, c, rfl, _, _, _, _, hr⟩ := h.all hv
    exact Src.ofSlice W hk _ _ _ _ (by simp) (fun j u hu => by rw [Addr.add_lit]; exact hr j u hu) h1
/-- Another slice under the same entries. -/
theorem St.lsE {B o n : Nat} {w W : World} {es : List Ent} {s : Value} {vs : List Value} (h : St B o n w (es ++ entL s vs) W) (hs : Shp s vs.length) : Ls 0 W s vs := h.ls hs fun e he => List.mem_append_right _ he
end Go.Proofs.Ytmoafjgogbcoeaa
