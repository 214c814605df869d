/- The engine, part 10: the moves of a region that acts; elements of rows of one's own; more reads. Over any program. The engine, part 11: values that are built; numbers of kind uint64; sectors compared. Over any program. The engine, part 12: min and max, nil slices, whole rows appended. Over any program. The engine, part 13: rows of structs of one's own, one more element, comparing structs. Over any program. The engine, part 14: one more element, in one step. Over any program. The engine, part 15: rows that are sealed; rows of slices. Over any program. The engine, part 16: code inside a fence (iterators, the rounds of a range over a function). Over any program. -/
import Derived.Test.YtiolpldihoghiaaDoorC1
import Derived.Laws.StructEq
import Derived.RangeFuncWrites
import Derived.RangeFuncLeaves
import Derived.RangeFuncCalls
import Derived.OrdersIn
import Derived.TacticsIn
namespace Go.Proofs.YtiolpldihoghiaaDoor
open Go.RowKit
set_option linter.unusedVariables false
set_option linter.unusedSimpArgs false

section
variable {P : Program} {N : Nat} {E : List (Nat × Value)} {ds : List Deferred} {ops : Array Oper} {rest : List Oper} {Q Q' : Exit → Act → World → Prop}
variable {d : Nat} {o : Op} {dst : Option Tmp} {ty : TypeId} {pos : String} {af : Array Edge} {g : Option (Nat × Bool)} {w w' ws : World} {v v' : Value} {x y z : Operand} {T u : TypeId} {a b : Int}
variable {w0 : World} {M : Nat → Prop} {L : List Loc} {O : List Own} {F : List (World → Prop)} {K : List (Nat × Value) → World → Prop} {B : List Nat} {f : Nat} {li : List Bool}

/-! ### The moves -/
theorem m_rd {i : Nat} (hi : ops[i]? = some ⟨some d, o, ty, pos, af, none⟩) (hk : okFirst ops B li i = true) (hS : Below ws.heap.size ws w) (hr : Rd P ⟨some d, o, ty, pos, af, none⟩ N E ws v) (hd : Nat.blt d N = true)
    (h : WM P ops Q B ws f (li.set i true) N ((d, v) :: E) ds w) : WM P ops Q B ws (f + 1) li N E ds w :=
  m_take hi hk (yieldsIf_rd rfl (fun w' hw' => (hw' rfl).block) hr) hS (by have := h.out; rwa [← fr_put v hd] at this)
theorem m_rdg {i j d' : Nat} {b : Bool} (hi : ops[i]? = some ⟨some d, o, ty, pos, af, some (j, b)⟩) (hk : okFirst ops B li i = true) (hS : Below ws.heap.size ws w)
    (hg : ((ops[j]?).bind (·.dst)) = some d') (hN : Nat.blt d' N = true) (hv : get E d' = .bool b) (hr : Rd P ⟨some d, o, ty, pos, af, some (j, b)⟩ N E ws v) (hd : Nat.blt d N = true)
    (h : WM P ops Q B ws f (li.set i true) N ((d, v) :: E) ds w) : WM P ops Q B ws (f + 1) li N E ds w :=
  m_take hi hk (yieldsIf_rd (by rw [wanted_some hg hN hv]; simp) (fun w' hw' => (hw' rfl).block) hr) hS (by have := h.out; rwa [← fr_put v hd] at this)
/-- What yields its value in every world. -/
theorem m_pure {i : Nat} (hi : ops[i]? = some ⟨some d, o, ty, pos, af, none⟩) (hk : okPure ops li i = true) (hr : ∀ w', Rd P ⟨some d, o, ty, pos, af, none⟩ N E w' v) (hd : Nat.blt d N = true)
    (h : WM P ops Q B ws f (li.set i true) N ((d, v) :: E) ds w) : WM P ops Q B ws (f + 1) li N E ds w :=
  m_take0 hi hk (.inl ⟨rfl, fun w' _ => (hr w').run ds w' (fun _ _ => rfl)⟩) (by have := h.out; rwa [← fr_put v hd] at this)
/-- One operation alone may come up. -/
theorem wpOp_st {i : Nat} {oo : Oper} {KK : Act → World → Prop} (hi : ops[i]? = some oo) (h : St P ops (NP Q) oo N E ds w fun E' w' => KK (fr N E' ds) w') : wpOp P ops (NP Q) i KK (fr N E ds) w := by
  unfold wpOp
  simp only [hi]
  have h2 := h.out KK fun _ _ h => h
  split
  · rename_i hw; rw [if_pos hw] at h2; exact .inl h2
  · rename_i hw; rw [if_neg hw] at h2; exact h2
theorem m_one {i : Nat} {oo : Oper} (hr : rdy ops li = [i]) (hi : ops[i]? = some oo) (h : St P ops (NP Q) oo N E ds w fun E' w' => (B.elem i = false → Below ws.heap.size ws w') ∧ WM P ops Q B ws f (li.set i true) N E' ds w') : WM P ops Q B ws (f + 1) li N E ds w := by
  refine ⟨fun h0 => ?_, fun j hj => ?_⟩
  · rw [show Region.ready .any ops li.toArray = [i] from hr] at h0; cases h0
  · rw [show Region.ready .any ops li.toArray = [i] from hr] at hj
    obtain rfl := List.mem_singleton.1 hj
    refine wpOp_st hi ⟨fun K' hK => h.out K' fun E' w' hh => hK E' w' ⟨fun hb _ => hh.1 hb, ?_⟩⟩
    have := hh.2.out
    simpa using this
theorem m_two {i j : Nat} {oi oj : Oper} (hr : rdy ops li = [i, j]) (hi : ops[i]? = some oi) (hj : ops[j]? = some oj)
    (h : St P ops (NP Q) oi N E ds w fun E' w' => (B.elem i = false → Below ws.heap.size ws w') ∧ WM P ops Q B ws f (li.set i true) N E' ds w')
    (h' : St P ops (NP Q) oj N E ds w fun E' w' => (B.elem j = false → Below ws.heap.size ws w') ∧ WM P ops Q B ws f (li.set j true) N E' ds w') : WM P ops Q B ws (f + 1) li N E ds w := by
  refine ⟨fun h0 => ?_, fun k hk => ?_⟩
  · rw [show Region.ready .any ops li.toArray = [i, j] from hr] at h0; cases h0
  · rw [show Region.ready .any ops li.toArray = [i, j] from hr] at hk
    rcases List.mem_cons.1 hk with rfl | hk
    · refine wpOp_st hi ⟨fun K' hK => h.out K' fun E' w' hh => hK E' w' ⟨fun hb _ => hh.1 hb, ?_⟩⟩
      have := hh.2.out
      simpa using this
    · obtain rfl := List.mem_singleton.1 hk
      refine wpOp_st hj ⟨fun K' hK => h'.out K' fun E' w' hh => hK E' w' ⟨fun hb _ => hh.1 hb, ?_⟩⟩
      have := hh.2.out
      simpa using this
theorem m_end (hr : rdy ops li = []) (h : Q .normal (fr N E ds) w) : WM P ops Q B ws f li N E ds w := by
  have hr' : Region.ready .any ops li.toArray = [] := hr
  refine ⟨?_⟩
  cases f with
  | zero => exact ⟨hr', ⟨h⟩⟩
  | succ f => exact ⟨fun _ => ⟨h⟩, by rw [hr']; simp⟩

/-! ### Elements of a row of one's own -/
theorem own_form {j e sz n m : Nat} {cs : List Value} (H : Hp w0 M w L O F) (hO : O[j]? = some ⟨v, e, sz, n, cs⟩) (hm : m < n) : ∃ g cap, v = .slice (some ⟨g, 0, none⟩) n cap :=
  match (H.own _ (List.mem_of_getElem? hO)).2 with
  | .inl ⟨_, h⟩ => absurd h (by simp only; omega)
  | .inr ⟨g, cap, _, h, _⟩ => ⟨g, cap, h⟩
theorem rd_len_own {j e sz n : Nat} {cs : List Value} {e' sz' by_ : Nat} [hT : SlTy P T e' sz' by_] (H : Hp w0 M w L O F) (hO : O[j]? = some ⟨v, e, sz, n, cs⟩) (hx : Ev N E x v) : Rd P ⟨dst, .call { callee := .builtin .len, args := #[x], argTypes := #[T] }, ty, pos, af, g⟩ N E w (.int .i64 n) := by
  rcases (H.own _ (List.mem_of_getElem? hO)).2 with ⟨h1, h2⟩ | ⟨gg, cap, cur, h1, _⟩
  · simp only at h1 h2; subst h2; exact rd_len (hT := hT) (h1 ▸ hx)
  · simp only at h1; exact rd_len (hT := hT) (h1 ▸ hx)
theorem rd_index_own {j e sz n m : Nat} {cs : List Value} {by_ : Nat} {k : IntKind} [hT : SlTy P T e sz by_] (H : Hp w0 M w L O F) (hO : O[j]? = some ⟨v, e, sz, n, cs⟩) (hx : Ev N E x v) (hy : Ev N E y (.int k a)) (ha : a = (m : Int)) (hm : m < n) :
    Rd P ⟨dst, .indexAddr T x y, ty, pos, af, g⟩ N E w (op v m sz 0) := by
  obtain ⟨gg, cap, rfl⟩ := own_form H hO hm
  obtain ⟨ii, h1, h2, _⟩ := hT.inf
  subst ha; subst h2
  refine ⟨fun ds w' hw => ?_⟩
  simp [execOp, fr_eval hx, fr_eval hy, Instr.indexAt, asIntOf, underlying, hT.und, run_sizeOf_ h1, op, hm, Value.ownBlock, add_zero_]
theorem rd_field_op {j e sz n m off : Nat} {cs : List Value} {f : Nat} [hT : FdT P T f off] (H : Hp w0 M w L O F) (hp : Ev N E x (op v m sz 0)) (hO : O[j]? = some ⟨v, e, sz, n, cs⟩) (hm : m < n) : Rd P ⟨dst, .fieldAddr T x f, ty, pos, af, g⟩ N E w (op v m sz off) := by
  obtain ⟨gg, cap, rfl⟩ := own_form H hO hm
  have h := rd_field (dst := dst) (ty := ty) (pos := pos) (af := af) (g := g) (w := w) (hT := hT) hp
  rw [add_zero_] at h
  exact h
theorem own_cell {j e sz n m i : Nat} {cs : List Value} {gg cap : Nat} (H : Hp w0 M w L O F) (hO : O[j]? = some ⟨.slice (some ⟨gg, 0, none⟩) n cap, e, sz, n, cs⟩) {q : Nat} (hv : cs[q]? = some v) : w.cell? ⟨gg, q, none⟩ = some v := by
  have := (H.own _ (List.mem_of_getElem? hO)).cells (g := gg) rfl q v hv
  rwa [add_zero_, Nat.zero_add] at this
theorem rd_load_op {j e sz n m i : Nat} {cs : List Value} {u : Value} [hT : ScT P T] (H : Hp w0 M w L O F) (hp : Ev N E x (op v m sz i)) (hO : O[j]? = some ⟨v, e, sz, n, cs⟩) (hm : m < n) (hv : cs[m * sz + i]? = some u) : Rd P ⟨dst, .load T x, ty, pos, af, g⟩ N E w u := by
  obtain ⟨gg, cap, rfl⟩ := own_form H hO hm
  exact rd_load_sc hp (own_cell (m := m) (i := i) H hO hv)
/-- A store into an element. -/
theorem s_store_op {j e sz n m i : Nat} {cs : List Value} {u : Value} [hT : ScT P T] (H : Hp w0 M w L O F) (hp : Ev N E x (op v m sz i)) (hO : O[j]? = some ⟨v, e, sz, n, cs⟩) (hm : m < n) (hi : i < sz) (hy : Ev N E y u) (h1 : u.oneCell' = true)
    (h : ∀ w', Hp w0 M w' L (O.set j ⟨v, e, sz, n, cs.set (m * sz + i) u⟩) F → K E w') : St P ops Q ⟨none, .store T x y, ty, pos, af, none⟩ N E ds w K := by
  obtain ⟨gg, cap, rfl⟩ := own_form H hO hm
  have hown := H.own _ (List.mem_of_getElem? hO)
  have hlen : m * sz + i < cs.length := by
    have h1 : cs.length = n * sz := hown.1
    have : (m + 1) * sz ≤ n * sz := Nat.mul_le_mul_right _ hm
    rw [Nat.add_mul, Nat.one_mul] at this
    omega
  obtain ⟨inf, hi1, hi2⟩ := hT.inf
  have hc : w.cell? ⟨gg, m * sz + i, none⟩ = some (cs[m * sz + i]) := own_cell (m := m) (i := i) H hO (List.getElem?_eq_getElem hlen)
  have hf : w.frozen? ⟨gg, m * sz + i, none⟩ = false := hown.frozenAt _
  have hcells : u.cells = #[u] := by cases u <;> first | rfl | (simp [Value.oneCell'] at h1)
  have hp' : Ev N E x (lp gg (m * sz + i)) := hp
  have hr : (execOp (fr N E ds).eval ⟨none, .store T x y, ty, pos, af, none⟩).run P w = .ok .skip (w.setCell ⟨gg, m * sz + i, none⟩ u) := by
    have hst : (store ⟨gg, m * sz + i, none⟩ u Mode.plain).run P w = .ok () (w.setCell ⟨gg, m * sz + i, none⟩ u) := by rw [run_store P w _ u _ h1, hc]; simp [hf]
    have ha : (⟨gg, m * sz + i, none⟩ : Addr).add 0 = ⟨gg, m * sz + i, none⟩ := by simp [Addr.add]
    simp [execOp, fr_eval hp', fr_eval hy, lp, Instr.storeAt, Instr.sureAddr, storeVar, hcells, run_sizeOf_ hi1, hi2, storeCells, ha, hst]
  obtain ⟨h2, h3⟩ := hown.stored (m * sz + i) u
  exact s_run rfl hr (.inl ⟨rfl, rfl, h _ (H.grow hO h3 h2 (.inl rfl))⟩)

/-! ### New rows -/
theorem Hp.own_new (H : Hp w0 M w L O F) {e sz n : Nat} {cs : List Value} (hb : Below w.heap.size w w') (ho : w'.ownsRow w.heap.size e sz v n cs) : Hp w0 M w' L (⟨v, e, sz, n, cs⟩ :: O) F := by
  have H' := H.ext hb
  have hge : ∀ b, v.ownBlock = some b → w.heap.size ≤ b := fun b hb => (ho.lt b hb).1
  have hlower : w'.ownsRow w0.heap.size e sz v n cs := by
    obtain ⟨h1, h2⟩ := ho
    refine ⟨h1, ?_⟩
    rcases h2 with h2 | ⟨g, cap, cur, rfl, hg, r⟩
    · exact .inl h2
    · exact .inr ⟨g, cap, cur, rfl, Nat.le_trans H.size hg, r⟩
  refine ⟨H'.below, H'.loc, ?_, H'.nd, List.pairwise_cons.2 ⟨fun o ho' => ?_, H'.od⟩, ?_, ?_⟩
  · intro o ho'
    rcases List.mem_cons.1 ho' with rfl | ho'
    · exact hlower
    · exact H'.own o ho'
  · cases hc : v.ownBlock with
    | none => exact .inl rfl
    | some b =>
      right; intro e2
      have := ((H.own o ho').lt b e2.symm).2
      have := hge b hc
      omega
  · intro l hl o ho'
    rcases List.mem_cons.1 ho' with rfl | ho'
    · intro e2
      have := hge _ e2
      have := H.lt hl
      omega
    · exact H'.lo l hl o ho'
  · intro ff hf
    refine (H.fact ff hf).step hb.size (fun b hb' _ => hb.block b hb') ?_
    rintro b (h | h | ⟨o, ho', hb'⟩)
    · exact .inl (.inl h)
    · exact .inl (.inr (.inl h))
    · rcases List.mem_cons.1 ho' with rfl | ho'
      · exact .inr (hge b hb')
      · exact .inl (.inr (.inr ⟨o, ho', hb'⟩))
theorem cells_make (z : Value) (sz n : Nat) (z0 : Value) (hz : z.cells.toList = List.replicate sz z0) (hs : 0 < sz) : (madeCells z.cells (n * sz)).toList = List.replicate (n * sz) z0 := by
  have hc : z.cells = (List.replicate sz z0).toArray := by rw [← hz]
  apply List.ext_getElem
  · simp [madeCells]
  · intro i h1 h2
    have hm : i % sz < sz := Nat.mod_lt _ hs
    simp [madeCells, hc, hm]
/-- 'make([]T, n)', the zero value's cells all alike. -/
theorem s_make {e sz by_ n : Nat} {z0 : Value} [hT : SlTy P T e sz by_] [hz : ZrT P e (List.replicate sz z0)] (H : Hp w0 M w L O F) (hx : Ev N E x (.int .i64 a)) (hy : Ev N E y (.int .i64 a)) (ha : a = (n : Int)) (hb : n * by_ ≤ 140737488355328) (hd : Nat.blt d N = true)
    (h : ∀ v w', Below w.heap.size w w' → Hp w0 M w' L (⟨v, e, sz, n, List.replicate (n * sz) z0⟩ :: O) F → K ((d, v) :: E) w') : St P ops Q ⟨some d, .makeSlice T x y, ty, pos, af, none⟩ N E ds w K := by
  obtain ⟨i, h2, h3, h4, z, h5, h6⟩ := hT.inf
  obtain ⟨i', z', q1, q2, q3⟩ := hz.inf
  rw [h2] at q1; injection q1 with q1; subst q1
  rw [h5] at q2; injection q2 with q2; subst q2
  subst ha
  have hp := hT.pos
  have hn : n ≤ 140737488355328 := Nat.le_trans (Nat.le_mul_of_pos_right _ hp.2) hb
  have hbi : (i.bytes : Int) * (n : Int) ≤ 281474976710656 := by
    rw [h4, Int.mul_comm]
    have : ((n * by_ : Nat) : Int) ≤ 140737488355328 := by omega
    rw [Int.natCast_mul] at this
    omega
  have hr := run_make (P := P) w T e i z hT.und h2 h5 .i64 .i64 n n (by omega) (Int.le_refl _) hbi (by omega)
  simp only [Int.toNat_natCast, h3] at hr
  have hown := World.ownsRow_lit (base := w.heap.size) (e := e) (size := sz) w (madeCells z.cells (n * sz)) n (Nat.le_refl _) (by simp only [maxLen]; omega) (size_madeCells _ _)
  rw [cells_make z sz n z0 q3 hp.1] at hown
  have hbl : Below w.heap.size w (w.alloc (.cells (madeCells z.cells (n * sz)) e)) := (Below.refl _ _).alloc (Nat.le_refl _) _
  exact s_run rfl (by simp [execOp, fr_eval hx, fr_eval hy, hr]) (.inr ⟨_, _, rfl, rfl, hd, h _ _ hbl (H.own_new hbl hown)⟩)
/-- 'make([]T, 0, n)'. -/
theorem s_make0 {e sz by_ n : Nat} [hT : SlTy P T e sz by_] (H : Hp w0 M w L O F) (hx : Ev N E x (.int .i64 0)) (hy : Ev N E y (.int .i64 a)) (ha : a = (n : Int)) (hb : n * by_ ≤ 140737488355328) (hd : Nat.blt d N = true)
    (h : ∀ v w', Below w.heap.size w w' → Hp w0 M w' L (⟨v, e, sz, 0, []⟩ :: O) F → K ((d, v) :: E) w') : St P ops Q ⟨some d, .makeSlice T x y, ty, pos, af, none⟩ N E ds w K := by
  obtain ⟨i, h2, h3, h4, z, h5, h6⟩ := hT.inf
  subst ha
  have hp := hT.pos
  have hn : n ≤ 140737488355328 := Nat.le_trans (Nat.le_mul_of_pos_right _ hp.2) hb
  obtain ⟨w', hr, hown, hg⟩ := run_make_own (P := P) w w.heap.size T e i z sz hT.und h2 h5 h3 .i64 .i64 n (by rw [h4, Nat.mul_comm]; omega) (by simp only [maxLen]; omega) (Nat.le_refl _)
  have hbl : Below w.heap.size w w' := ⟨hg.os, hg.tape, hg.output, hg.size, fun k hk => hg.block k hk (by simp)⟩
  exact s_run rfl (by simp [execOp, fr_eval hx, fr_eval hy, hr]) (.inr ⟨_, _, rfl, rfl, hd, h _ _ hbl (H.own_new hbl hown)⟩)

/-! ### More reads -/
theorem rd_makeFunc {fn : Fn} {cap : List Operand} {vs : List Value} (hc : Evs N E cap vs) : Rd P ⟨dst, .makeFunc fn #[] cap.toArray, ty, pos, af, g⟩ N E w (.func fn #[] vs.toArray) := by
  refine ⟨fun ds w' _ => ?_⟩
  have := evs_map (ds := ds) hc
  simp [execOp, Instr.makeFunc, this]
end
end Go.Proofs.YtiolpldihoghiaaDoor

namespace Go.Proofs.YtiolpldihoghiaaDoor
open Go.RowKit
set_option linter.unusedVariables false
set_option linter.unusedSimpArgs false

section
variable {P : Program} {N : Nat} {E : List (Nat × Value)} {ds : List Deferred} {ops : Array Oper} {rest : List Oper} {Q Q' : Exit → Act → World → Prop}
variable {d : Nat} {o : Op} {dst : Option Tmp} {ty : TypeId} {pos : String} {af : Array Edge} {g : Option (Nat × Bool)} {w w' ws : World} {v v' : Value} {x y z : Operand} {T u : TypeId} {a b : Int}

/-! ### Structs and arrays of one-cell parts -/
def setAll (offs : List Nat) (z : List Value) : List (Nat × Value) → List Value
  | [] => z
  | (i, v) :: r => setAll offs (z.set (offs.getD i 0) v) r
theorem one_cells {v : Value} (h : v.oneCell' = true) : v.cells = #[v] := by cases v <;> first | rfl | (simp [Value.oneCell'] at h)
theorem fill_one (place : Nat → Option (Nat × Nat)) (offs : List Nat) (hp : ∀ i, i < offs.length → place i = some (offs.getD i 0, 1)) : ∀ (parts : List (Nat × Value)) (z : List Value), (∀ o ∈ offs, o < z.length) → (∀ p ∈ parts, p.2.oneCell' = true ∧ p.1 < offs.length) →
    Instr.fill place z.toArray parts = some (setAll offs z parts).toArray
  | [], z, _, _ => rfl
  | (i, v) :: r, z, hz, h => by
    obtain ⟨h1, h2⟩ := h (i, v) (List.mem_cons_self)
    have hlt : offs.getD i 0 < z.length := hz _ (by rw [List.getD_eq_getElem?_getD, List.getElem?_eq_getElem h2]; exact List.getElem_mem h2)
    have hng : ¬ (offs.getD i 0 + 1 > z.length) := by omega
    have ih := fill_one place offs hp r (z.set (offs.getD i 0) v) (by simpa using hz) (fun p hp' => h p (List.mem_cons_of_mem _ hp'))
    simp only [Instr.fill, hp i h2, one_cells h1]
    simp only [List.size_toArray, List.length_singleton, ne_eq, not_true_eq_false, decide_false, Bool.false_or]
    rw [if_neg (by simpa using hng)]
    simp only [setAll]
    rw [← ih]
    congr 1
    simp
class BdT (P : Program) (T : TypeId) (offs : outParam (List Nat)) (z : outParam (List Value)) : Prop where
  run : ∀ (parts : List (Nat × Value)) (w : World), (∀ p ∈ parts, p.2.oneCell' = true ∧ p.1 < offs.length) → (Instr.build T parts.toArray).run P w = .ok (.agg (setAll offs z parts).toArray) w
def plOf (P : Program) (T : TypeId) : Option (List (Nat × Option Nat)) :=
  match P.underlying T with
  | some (.struct fs) => some (fs.toList.map fun f => (f.offset, (P.info? f.type).map (·.size)))
  | _ => none
theorem bdStruct {offs : List Nat} {z : List Value} (h : plOf P T = some (offs.map fun o => (o, some 1))) (hz : ((P.info? T).bind (·.zero)).map (·.cells.toList) = some z) (hb : offs.all (fun o => decide (o < z.length)) = true) : BdT P T offs z := by
  refine ⟨fun parts w hp => ?_⟩
  unfold plOf at h
  split at h
  · rename_i fs hu
    obtain ⟨zv, h1, h2⟩ := Option.map_eq_some_iff.1 hz
    obtain ⟨i, h3, h4⟩ := Option.bind_eq_some_iff.1 h1
    injection h with h
    have key : ∀ (l : List Field) (offs : List Nat), l.map (fun f => (f.offset, (P.info? f.type).map (·.size))) = offs.map (fun o => (o, some 1)) →
        (l.mapM (m := Sem) fun f => do pure (f.offset, ← sizeOf f.type)).run P w = .ok (offs.map fun o => (o, 1)) w := by
      intro l
      induction l with
      | nil => intro offs ho; cases offs with
        | nil => rfl
        | cons _ _ => cases ho
      | cons f l ih =>
        intro offs ho
        cases offs with
        | nil => cases ho
        | cons o offs =>
          simp only [List.map_cons, List.cons.injEq, Prod.mk.injEq] at ho
          obtain ⟨⟨ho1, ho2⟩, ho3⟩ := ho
          obtain ⟨ii, q1, q2⟩ := Option.map_eq_some_iff.1 ho2
          simp only [List.mapM_cons, Sem.run_bind, run_sizeOf_ q1, Result.andThen_ok, Sem.run_pure, ih _ ho3, q2, ho1, List.map_cons]
    have hm := key fs.toList offs h
    have e : zv.cells = z.toArray := by rw [← h2]
    have hfill := fill_one (fun i => (offs.map fun o => (o, 1)).toArray[i]?) offs (fun i hi => by simp [hi]) parts z (fun o ho => of_decide_eq_true (List.all_eq_true.1 hb o ho)) hp
    have hm' : (fs.mapM (m := Sem) fun f => do pure (f.offset, ← sizeOf f.type)).run P w = .ok (offs.map fun o => (o, 1)).toArray w := by
      rw [Array.mapM_eq_mapM_toList, Sem.run_map, hm]; rfl
    simp only [Instr.build, zeroValue, typeInfo, underlying, Sem.run_bind, run_program, Result.andThen_ok, h3, Sem.run_pure, h4, hu, hm', e]
    rw [hfill]
    rfl
  · cases h
theorem bdArray {offs : List Nat} {z : List Value} {n e : Nat} (h : P.underlying T = some (.array n e)) (he : (P.info? e).map (·.size) = some 1) (ho : offs = List.range n) (hz : ((P.info? T).bind (·.zero)).map (·.cells.toList) = some z) (hb : z.length = n) : BdT P T offs z := by
  refine ⟨fun parts w hp => ?_⟩
  obtain ⟨zv, h1, h2⟩ := Option.map_eq_some_iff.1 hz
  obtain ⟨i, h3, h4⟩ := Option.bind_eq_some_iff.1 h1
  obtain ⟨i', q1, q2⟩ := Option.map_eq_some_iff.1 he
  have e1 : zv.cells = z.toArray := by rw [← h2]
  subst ho
  have hfill := fill_one (fun i => some (i * 1, 1)) (List.range n) (fun i hi => by simp at hi; simp [hi]) parts z (fun o ho => by simp at ho; omega) hp
  simp only [Instr.build, zeroValue, typeInfo, underlying, Sem.run_bind, run_program, Result.andThen_ok, h3, Sem.run_pure, h4, h, e1, run_sizeOf_ q1, q2]
  rw [hfill]
  rfl
/-- The parts' values. -/
def Evp (N : Nat) (E : List (Nat × Value)) : List (Nat × Operand) → List (Nat × Value) → Prop
  | [], vs => vs = []
  | (i, x) :: xs, vs => ∃ v vs', vs = (i, v) :: vs' ∧ Ev N E x v ∧ Evp N E xs vs'
theorem evp0 : Evp N E [] [] := rfl
theorem evp1 {i : Nat} {v : Value} {xs : List (Nat × Operand)} {vs : List (Nat × Value)} (h : Ev N E x v) (hs : Evp N E xs vs) : Evp N E ((i, x) :: xs) ((i, v) :: vs) := ⟨_, _, rfl, h, hs⟩
theorem evp_map : ∀ {xs : List (Nat × Operand)} {vs : List (Nat × Value)}, Evp N E xs vs → xs.map (fun p => (p.1, (fr N E ds).eval p.2)) = vs
  | [], vs, h => h.symm
  | (i, x) :: xs, vs, ⟨v, vs', h, h1, h2⟩ => by subst h; simp only [List.map_cons, fr_eval h1, evp_map h2]
theorem rd_build {offs : List Nat} {zc : List Value} [hB : BdT P T offs zc] {parts : List (Nat × Operand)} {vs : List (Nat × Value)} (hp : Evp N E parts vs) (h1 : vs.all (fun p => p.2.oneCell' && decide (p.1 < offs.length)) = true) {cs : List Value} (hc : setAll offs zc vs = cs) :
    Rd P ⟨dst, .build T parts.toArray, ty, pos, af, g⟩ N E w (.agg cs.toArray) := by
  subst hc
  refine ⟨fun ds w' _ => ?_⟩
  have e : (parts.toArray.map fun p => (p.1, (fr N E ds).eval p.2)) = vs.toArray := by rw [List.map_toArray, evp_map hp]
  have hr := hB.run vs w' (fun p hp' => by
    have := List.all_eq_true.1 h1 p hp'
    simpa using this)
  simp only [execOp, e, Sem.run_bind, hr, Result.andThen_ok, Sem.run_pure]

/-! ### Numbers of kind uint64 -/
theorem wrap_u64 (n : Int) : IntKind.u64.wrap n = n % 18446744073709551616 := rfl
theorem u64_toNat {a : Int} (h : 0 ≤ a ∧ a < 18446744073709551616) : (BitVec.ofInt 64 a).toNat = a.toNat := by
  rw [BitVec.toNat_ofInt]
  have : (a % ((2 ^ 64 : Nat) : Int)) = a := Int.emod_eq_of_lt h.1 (by have := h.2; omega)
  rw [this]
theorem u64_back {n : Nat} (h : n < 18446744073709551616) : IntKind.u64.wrap (n : Int) = (n : Int) := by
  rw [wrap_u64]; exact Int.emod_eq_of_lt (by omega) (by omega)
theorem rd_and64 (hx : Ev N E x (.int .u64 a)) (hy : Ev N E y (.int .u64 b)) (ha : 0 ≤ a ∧ a < 18446744073709551616) (hb : 0 ≤ b ∧ b < 18446744073709551616) : Rd P ⟨dst, .binOp .and T x y u, ty, pos, af, g⟩ N E w (.int .u64 ((a.toNat &&& b.toNat : Nat) : Int)) := by
  refine rd_and hx hy ?_
  rw [BitVec.toNat_and]
  show IntKind.u64.wrap (((BitVec.ofInt 64 a).toNat &&& (BitVec.ofInt 64 b).toNat : Nat) : Int) = _
  rw [u64_toNat ha, u64_toNat hb]
  exact u64_back (Nat.lt_of_le_of_lt Nat.and_le_left (by omega))
theorem rd_or64 (hx : Ev N E x (.int .u64 a)) (hy : Ev N E y (.int .u64 b)) (ha : 0 ≤ a ∧ a < 18446744073709551616) (hb : 0 ≤ b ∧ b < 18446744073709551616) : Rd P ⟨dst, .binOp .or T x y u, ty, pos, af, g⟩ N E w (.int .u64 ((a.toNat ||| b.toNat : Nat) : Int)) := by
  refine rd_or hx hy ?_
  rw [BitVec.toNat_or]
  show IntKind.u64.wrap (((BitVec.ofInt 64 a).toNat ||| (BitVec.ofInt 64 b).toNat : Nat) : Int) = _
  rw [u64_toNat ha, u64_toNat hb]
  exact u64_back (Nat.or_lt_two_pow (n := 64) (by omega) (by omega))
theorem rd_shr64 {k' : IntKind} (hx : Ev N E x (.int .u64 a)) (hy : Ev N E y (.int k' b)) (ha : 0 ≤ a) (hb : 0 ≤ b ∧ b ≤ 64) : Rd P ⟨dst, .binOp .shr T x y u, ty, pos, af, g⟩ N E w (.int .u64 ((a.toNat >>> b.toNat : Nat) : Int)) := by
  have h := rd_shr (P := P) (dst := dst) (T := T) (u := u) (ty := ty) (pos := pos) (af := af) (g := g) (w := w) (n := b.toNat) hx hy hb.1 (by show min b.toNat 64 = b.toNat; omega)
  have e : (a.fdiv (2 ^ b.toNat)) = ((a.toNat >>> b.toNat : Nat) : Int) := by
    obtain ⟨m, rfl⟩ := Int.eq_ofNat_of_zero_le ha
    rw [Int.toNat_natCast, Nat.shiftRight_eq_div_pow, Int.natCast_ediv, Int.natCast_pow]
    rw [Int.fdiv_eq_ediv_of_nonneg _ (Int.pow_nonneg (by decide))]
    rfl
  rwa [e] at h
theorem rd_shl64 {k' : IntKind} (hx : Ev N E x (.int .u64 a)) (hy : Ev N E y (.int k' b)) (ha : 0 ≤ a) (hb : 0 ≤ b ∧ b ≤ 64) : Rd P ⟨dst, .binOp .shl T x y u, ty, pos, af, g⟩ N E w (.int .u64 (((a.toNat <<< b.toNat) % 18446744073709551616 : Nat) : Int)) := by
  refine rd_shl (n := b.toNat) hx hy hb.1 (by show min b.toNat 64 = b.toNat; omega) ?_
  obtain ⟨m, rfl⟩ := Int.eq_ofNat_of_zero_le ha
  rw [wrap_u64, Int.toNat_natCast, Nat.shiftLeft_eq, Int.natCast_emod, Int.natCast_mul, Int.natCast_pow]
  rfl
/-! ### Conversions between whole numbers -/
class KdT (P : Program) (T : TypeId) (k : outParam IntKind) : Prop where
  und : P.underlying T = some (.int k)
theorem rd_conv {k k' : IntKind} {S c : Int} {src : TypeId} [h1 : KdT P src k] [h2 : KdT P T k'] (hx : Ev N E x (.int k a)) (hc : k'.wrap a = c) : Rd P ⟨dst, .convert src T x, ty, pos, af, g⟩ N E w (.int k' c) := by
  subst hc
  refine ⟨fun ds w' _ => ?_⟩
  simp [execOp, fr_eval hx, convert, underlying, h1.und, h2.und, Conv.intToInt]
theorem rd_conv64u {src : TypeId} {k : IntKind} [h1 : KdT P src k] [h2 : KdT P T .u64] (hx : Ev N E x (.int k a)) (h : 0 ≤ a ∧ a < 18446744073709551616) : Rd P ⟨dst, .convert src T x, ty, pos, af, g⟩ N E w (.int .u64 a) :=
  rd_conv (S := 0) hx (by rw [wrap_u64]; exact Int.emod_eq_of_lt h.1 h.2)
theorem rd_conv64 {src : TypeId} {k : IntKind} [h1 : KdT P src k] [h2 : KdT P T .i64] (hx : Ev N E x (.int k a)) (h : -9223372036854775808 ≤ a ∧ a ≤ 9223372036854775807) : Rd P ⟨dst, .convert src T x, ty, pos, af, g⟩ N E w (.int .i64 a) :=
  rd_conv (S := 0) hx (IntWalk.i64_in _ h)

theorem u64_at {xs : List Int} (h : ∀ x ∈ xs, rng .u64 x) {i : Nat} {hi : i < xs.length} : 0 ≤ xs[i] ∧ xs[i] < 18446744073709551616 := by
  have := h _ (List.getElem_mem hi); simp only [rng] at this; omega
theorem shr_in {k : Nat} (h : 0 ≤ a ∧ a < 18446744073709551616) : (0 : Int) ≤ ((a.toNat >>> k : Nat) : Int) ∧ ((a.toNat >>> k : Nat) : Int) < 18446744073709551616 := by
  have : a.toNat >>> k ≤ a.toNat := by rw [Nat.shiftRight_eq_div_pow]; exact Nat.div_le_self _ _
  exact ⟨Int.natCast_nonneg _, Int.lt_of_le_of_lt (Int.ofNat_le.2 this) (by omega)⟩
theorem u64_auto (h : 0 ≤ a ∧ a < 18446744073709551616 := by first | omega | exact u64_at (by assumption) | exact shr_in (u64_at (by assumption)) | exact shr_in (by omega) | assumption) : 0 ≤ a ∧ a < 18446744073709551616 := h
theorem u64_auto0 (h : 0 ≤ a ∧ a < 18446744073709551616 := by exact u64_auto) : 0 ≤ a := h.1
theorem g_build {parts : Array (Nat × Operand)} (h : Rd P ⟨dst, .build T parts, ty, pos, af, g⟩ N E w v) : Rd P ⟨dst, .build T parts, ty, pos, af, g⟩ N E w v := h
theorem g_conv {src : TypeId} (h : Rd P ⟨dst, .convert src T x, ty, pos, af, g⟩ N E w v) : Rd P ⟨dst, .convert src T x, ty, pos, af, g⟩ N E w v := h
theorem g_mkf {fn : Fn} {p q : Array Operand} (h : Rd P ⟨dst, .makeFunc fn p q, ty, pos, af, g⟩ N E w v) : Rd P ⟨dst, .makeFunc fn p q, ty, pos, af, g⟩ N E w v := h
theorem evs_i {k : IntKind} {q : Int} {x : Operand} {xs : List Operand} {vs : List Value} (h : Ev N E x (.int k q)) (hs : Evs N E xs vs) : Evs N E (x :: xs) (.int k q :: vs) := evs1 h hs
theorem evp_i {k : IntKind} {q : Int} {i : Nat} {x : Operand} {xs : List (Nat × Operand)} {vs : List (Nat × Value)} (h : Ev N E x (.int k q)) (hs : Evp N E xs vs) : Evp N E ((i, x) :: xs) ((i, .int k q) :: vs) := evp1 h hs
theorem evs_s {A : Option Addr} {n c : Nat} {x : Operand} {xs : List Operand} {vs : List Value} (h : Ev N E x (.slice A n c)) (hs : Evs N E xs vs) : Evs N E (x :: xs) (.slice A n c :: vs) := evs1 h hs
theorem evp_s {A : Option Addr} {n c : Nat} {i : Nat} {x : Operand} {xs : List (Nat × Operand)} {vs : List (Nat × Value)} (h : Ev N E x (.slice A n c)) (hs : Evp N E xs vs) : Evp N E ((i, x) :: xs) ((i, .slice A n c) :: vs) := evp1 h hs
theorem evs_b {q : Bool} {x : Operand} {xs : List Operand} {vs : List Value} (h : Ev N E x (.bool q)) (hs : Evs N E xs vs) : Evs N E (x :: xs) (.bool q :: vs) := evs1 h hs
theorem evp_b {q : Bool} {i : Nat} {x : Operand} {xs : List (Nat × Operand)} {vs : List (Nat × Value)} (h : Ev N E x (.bool q)) (hs : Evp N E xs vs) : Evp N E ((i, x) :: xs) ((i, .bool q) :: vs) := evp1 h hs
theorem evs_g {q : Array Value} {x : Operand} {xs : List Operand} {vs : List Value} (h : Ev N E x (.agg q)) (hs : Evs N E xs vs) : Evs N E (x :: xs) (.agg q :: vs) := evs1 h hs
theorem evp_g {q : Array Value} {i : Nat} {x : Operand} {xs : List (Nat × Operand)} {vs : List (Nat × Value)} (h : Ev N E x (.agg q)) (hs : Evp N E xs vs) : Evp N E ((i, x) :: xs) ((i, .agg q) :: vs) := evp1 h hs
theorem evs_f {q : Fn} {r t : Array Value} {x : Operand} {xs : List Operand} {vs : List Value} (h : Ev N E x (.func q r t)) (hs : Evs N E xs vs) : Evs N E (x :: xs) (.func q r t :: vs) := evs1 h hs
theorem evp_f {q : Fn} {r t : Array Value} {i : Nat} {x : Operand} {xs : List (Nat × Operand)} {vs : List (Nat × Value)} (h : Ev N E x (.func q r t)) (hs : Evp N E xs vs) : Evp N E ((i, x) :: xs) ((i, .func q r t) :: vs) := evp1 h hs
theorem evs_p {q : Option Addr} {x : Operand} {xs : List Operand} {vs : List Value} (h : Ev N E x (.pointer q)) (hs : Evs N E xs vs) : Evs N E (x :: xs) (.pointer q :: vs) := evs1 h hs
theorem evp_p {q : Option Addr} {i : Nat} {x : Operand} {xs : List (Nat × Operand)} {vs : List (Nat × Value)} (h : Ev N E x (.pointer q)) (hs : Evp N E xs vs) : Evp N E ((i, x) :: xs) ((i, .pointer q) :: vs) := evp1 h hs
theorem evs_t {q : Array Value} {x : Operand} {xs : List Operand} {vs : List Value} (h : Ev N E x (.tuple q)) (hs : Evs N E xs vs) : Evs N E (x :: xs) (.tuple q :: vs) := evs1 h hs
theorem evp_t {q : Array Value} {i : Nat} {x : Operand} {xs : List (Nat × Operand)} {vs : List (Nat × Value)} (h : Ev N E x (.tuple q)) (hs : Evp N E xs vs) : Evp N E ((i, x) :: xs) ((i, .tuple q) :: vs) := evp1 h hs
theorem evs_auto {xs : List Operand} {vs : List Value} (h : Evs N E xs vs := by
  repeat' (first | exact evs0 | apply evs_i (Ev.mk rfl rfl) | apply evs_s (Ev.mk rfl rfl) | apply evs_b (Ev.mk rfl rfl) | apply evs_g (Ev.mk rfl rfl) | apply evs_f (Ev.mk rfl rfl) | apply evs_p (Ev.mk rfl rfl) | apply evs_t (Ev.mk rfl rfl) | apply evs1 (Ev.mk rfl rfl))) : Evs N E xs vs := h
theorem evp_auto {xs : List (Nat × Operand)} {vs : List (Nat × Value)} (h : Evp N E xs vs := by
  repeat' (first | exact evp0 | apply evp_i (Ev.mk rfl rfl) | apply evp_s (Ev.mk rfl rfl) | apply evp_b (Ev.mk rfl rfl) | apply evp_g (Ev.mk rfl rfl) | apply evp_f (Ev.mk rfl rfl) | apply evp_p (Ev.mk rfl rfl) | apply evp_t (Ev.mk rfl rfl) | apply evp1 (Ev.mk rfl rfl))) : Evp N E xs vs := h
theorem rd_auto2 {o : Oper} (hr : Rd P o N E w v := by
      first
      | exact rd_auto
      | (apply g_build; first | exact rd_build (cs := [_, _]) evp_auto (by rfl) (by rfl) | exact rd_build (cs := [_, _, _]) evp_auto (by rfl) (by rfl) | exact rd_build (cs := [_]) evp_auto (by rfl) (by rfl) | exact rd_build (cs := [_, _, _, _]) evp_auto (by rfl) (by rfl) | exact rd_build (cs := [_, _, _, _, _]) evp_auto (by rfl) (by rfl) | exact rd_build (cs := [_, _, _, _, _, _]) evp_auto (by rfl) (by rfl) | exact rd_build (cs := [_, _, _, _, _, _, _, _]) evp_auto (by rfl) (by rfl))
      | (apply g_bin; first | exact rd_and64 ⟨rfl, rfl⟩ ⟨rfl, rfl⟩ u64_auto u64_auto | exact rd_or64 ⟨rfl, rfl⟩ ⟨rfl, rfl⟩ u64_auto u64_auto | exact rd_shr64 ⟨rfl, rfl⟩ ⟨rfl, rfl⟩ u64_auto0 (by omega) | exact rd_shl64 ⟨rfl, rfl⟩ ⟨rfl, rfl⟩ u64_auto0 (by omega))
      | (apply g_conv; first | exact rd_conv64u ⟨rfl, rfl⟩ (by omega) | exact rd_conv64 ⟨rfl, rfl⟩ (by omega))
      | (apply g_mkf; exact rd_makeFunc evs_auto)) : Rd P o N E w v := hr

/-! ### Calls, the operands first -/
section
variable {Q Q' : Exit → Act → World → Prop} {ops : Array Oper} {rest : List Oper} {K : List (Nat × Value) → World → Prop} {w0 : World} {M : Nat → Prop} {L : List Loc} {O : List Own} {F : List (World → Prop)} {d : Nat}
theorem k_call {k : FuncId} [hk : FnT P k] {post : Value → World → Prop} {xs : List Operand} {vs : List Value} {tys : Array TypeId} (ha : Evs N E xs vs)
    (H : Hp w0 M w L O F) (hc : Ret P k vs w post) (hd : Nat.blt d N = true) (h : ∀ v w', post v w' → Below w.heap.size w w' → Hp w0 M w' L O F → K ((d, v) :: E) w') :
    St P ops Q ⟨some d, .call { callee := .value (.func k), args := xs.toArray, argTypes := tys }, ty, pos, af, none⟩ N E ds w K := s_call H hc ha hd h
theorem k_call1 {k : FuncId} [hk : FnT P k] {xs : List Operand} {vs : List Value} {tys : Array TypeId} (ha : Evs N E xs vs)
    (H : Hp w0 M w L O F) (hc : Ret P k vs w (fun u _ => u = v)) (hd : Nat.blt d N = true) (h : ∀ w', Below w.heap.size w w' → Hp w0 M w' L O F → K ((d, v) :: E) w') :
    St P ops Q ⟨some d, .call { callee := .value (.func k), args := xs.toArray, argTypes := tys }, ty, pos, af, none⟩ N E ds w K := s_call1 H hc ha hd h
theorem k_callg {i d' : Nat} {b : Bool} {k : FuncId} [hk : FnT P k] {post : Value → World → Prop} {xs : List Operand} {vs : List Value} {tys : Array TypeId} (ha : Evs N E xs vs)
    (hg : ((ops[i]?).bind (·.dst)) = some d') (hN : Nat.blt d' N = true) (hv : get E d' = .bool b)
    (H : Hp w0 M w L O F) (hc : Ret P k vs w post) (hd : Nat.blt d N = true) (h : ∀ v w', post v w' → Below w.heap.size w w' → Hp w0 M w' L O F → K ((d, v) :: E) w') :
    St P ops Q ⟨some d, .call { callee := .value (.func k), args := xs.toArray, argTypes := tys }, ty, pos, af, some (i, b)⟩ N E ds w K := s_callg hg hN hv H hc ha hd h
theorem k_callg1 {i d' : Nat} {b : Bool} {k : FuncId} [hk : FnT P k] {xs : List Operand} {vs : List Value} {tys : Array TypeId} (ha : Evs N E xs vs)
    (hg : ((ops[i]?).bind (·.dst)) = some d') (hN : Nat.blt d' N = true) (hv : get E d' = .bool b)
    (H : Hp w0 M w L O F) (hc : Ret P k vs w (fun u _ => u = v)) (hd : Nat.blt d N = true) (h : ∀ w', Below w.heap.size w w' → Hp w0 M w' L O F → K ((d, v) :: E) w') :
    St P ops Q ⟨some d, .call { callee := .value (.func k), args := xs.toArray, argTypes := tys }, ty, pos, af, some (i, b)⟩ N E ds w K := s_callg1 hg hN hv H hc ha hd h
theorem kq_call1 {k : FuncId} [hk : FnT P k] {Q1 : Act → Prop} {xs : List Operand} {vs : List Value} {tys : Array TypeId} (ha : Evs N E xs vs)
    (H : Hp w0 M w L O F) (hc : ∀ w', Hp w0 M w' L O F → Ret P k vs w' (fun u _ => u = v)) (hd : Nat.blt d N = true) (h : WQ P ops Q1 rest N ((d, v) :: E) ds w) :
    WQ P ops Q1 (⟨some d, .call { callee := .value (.func k), args := xs.toArray, argTypes := tys }, ty, pos, af, none⟩ :: rest) N E ds w := q_call1 H hc ha hd h
theorem kq_callg1 {i d' : Nat} {b : Bool} {k : FuncId} [hk : FnT P k] {Q1 : Act → Prop} {xs : List Operand} {vs : List Value} {tys : Array TypeId} (ha : Evs N E xs vs)
    (hg : ((ops[i]?).bind (·.dst)) = some d') (hN : Nat.blt d' N = true) (hv : get E d' = .bool b)
    (H : Hp w0 M w L O F) (hc : ∀ w', Hp w0 M w' L O F → Ret P k vs w' (fun u _ => u = v)) (hd : Nat.blt d N = true) (h : WQ P ops Q1 rest N ((d, v) :: E) ds w) :
    WQ P ops Q1 (⟨some d, .call { callee := .value (.func k), args := xs.toArray, argTypes := tys }, ty, pos, af, some (i, b)⟩ :: rest) N E ds w := q_callg1 hg hN hv H hc ha hd h
end
end
end Go.Proofs.YtiolpldihoghiaaDoor

namespace Go.Proofs.YtiolpldihoghiaaDoor
open Go.RowKit
set_option linter.unusedVariables false
set_option linter.unusedSimpArgs false

section
variable {P : Program} {N : Nat} {E : List (Nat × Value)} {ds : List Deferred} {ops : Array Oper} {rest : List Oper} {Q Q' : Exit → Act → World → Prop}
variable {d : Nat} {o : Op} {dst : Option Tmp} {ty : TypeId} {pos : String} {af : Array Edge} {g : Option (Nat × Bool)} {w w' ws : World} {v v' : Value} {x y z : Operand} {T T' u : TypeId} {a b : Int}
variable {w0 : World} {M : Nat → Prop} {L : List Loc} {O : List Own} {F : List (World → Prop)} {K : List (Nat × Value) → World → Prop}

theorem rd_min {k k' : IntKind} (hx : Ev N E x (.int k a)) (hy : Ev N E y (.int k' b)) : Rd P ⟨dst, .call { callee := .builtin .min, args := #[x, y], argTypes := #[T, T'] }, ty, pos, af, g⟩ N E w (.int k (min a b)) := by
  refine ⟨fun ds w' hw => ?_⟩
  have : min a b = if b < a then b else a := by simp only [Int.min_def]; split <;> split <;> omega
  simp [execOp, resolve, invoke, builtin, fr_eval hx, fr_eval hy, Builtin.min_, Builtin.min2, this]
theorem rd_max {k k' : IntKind} (hx : Ev N E x (.int k a)) (hy : Ev N E y (.int k' b)) : Rd P ⟨dst, .call { callee := .builtin .max, args := #[x, y], argTypes := #[T, T'] }, ty, pos, af, g⟩ N E w (.int k (max a b)) := by
  refine ⟨fun ds w' hw => ?_⟩
  have : max a b = if b > a then b else a := by simp only [Int.max_def]; split <;> split <;> omega
  simp [execOp, resolve, invoke, builtin, fr_eval hx, fr_eval hy, Builtin.max_, Builtin.max2, this]
theorem run_equalIn_nil {e n c : Nat} {A : Option Addr} (hu : P.underlying T = some (.slice e)) (m : Nat) : (Op.equalIn (m + 1) T (.slice A n c) (.slice none 0 0)).run P w = .ok A.isNone w := by
  cases A <;> simp [Op.equalIn, underlying, hu]
theorem run_equal_nil {e n c : Nat} {A : Option Addr} (hu : P.underlying T = some (.slice e)) : (Op.equal T (.slice A n c) (.slice none 0 0)).run P w = .ok A.isNone w :=
  run_equalIn_nil hu 9999
theorem run_eqGuard_sl {op : BinOp} {n c n' c' : Nat} {A A' : Option Addr} : (eqGuard op T x y (.slice A n c) (.slice A' n' c')).run P w = .ok () w := by
  unfold eqGuard; split <;> simp
theorem rd_slnil {e sz by_ : Nat} [hT : SlTy P T e sz by_] {A : Option Addr} {n c : Nat} (hx : Ev N E x (.slice A n c)) : Rd P ⟨dst, .binOp .eql T x (.const (.slice none 0 0)) u, ty, pos, af, g⟩ N E w (.bool (decide (A.isNone = true))) := by
  refine ⟨fun ds w' hw => ?_⟩
  have h1 : (fr N E ds).eval (.const (.slice none 0 0)) = .slice none 0 0 := rfl
  have h2 : (binOp .eql T (.slice A n c) (.slice none 0 0)).run P w' = .ok (.bool A.isNone) w' := by
    have := run_equal_nil (P := P) (w := w') (T := T) (A := A) (n := n) (c := c) hT.und
    simp only [binOp]
    simp [this]
  simp only [execOp, fr_eval hx, h1]
  simp [run_eqGuard_sl, h2]
  cases A <;> rfl
theorem rd_slnnil {e sz by_ : Nat} [hT : SlTy P T e sz by_] {A : Option Addr} {n c : Nat} (hx : Ev N E x (.slice A n c)) : Rd P ⟨dst, .binOp .neq T x (.const (.slice none 0 0)) u, ty, pos, af, g⟩ N E w (.bool (decide (A.isNone = false))) := by
  refine ⟨fun ds w' hw => ?_⟩
  have h1 : (fr N E ds).eval (.const (.slice none 0 0)) = .slice none 0 0 := rfl
  have h2 : (binOp .neq T (.slice A n c) (.slice none 0 0)).run P w' = .ok (.bool (!A.isNone)) w' := by
    have := run_equal_nil (P := P) (w := w') (T := T) (A := A) (n := n) (c := c) hT.und
    simp only [binOp]
    simp [this]
  simp only [execOp, fr_eval hx, h1]
  simp [run_eqGuard_sl, h2]
/-- '[]T{}'. -/
theorem s_build0 {e sz by_ : Nat} [hT : SlTy P T e sz by_] (H : Hp w0 M w L O F) (hd : Nat.blt d N = true)
    (h : ∀ v w', Below w.heap.size w w' → Hp w0 M w' L (⟨v, e, sz, 0, []⟩ :: O) F → K ((d, v) :: E) w') : St P ops Q ⟨some d, .buildSlice T 0 #[], ty, pos, af, none⟩ N E ds w K := by
  obtain ⟨i, h2, h3, h4, z, h5, h6⟩ := hT.inf
  have hown := World.ownsRow_lit (base := w.heap.size) (e := e) (size := sz) w #[] 0 (Nat.le_refl _) (by decide) (by simp)
  have hbl : Below w.heap.size w (w.alloc (.cells #[] e)) := (Below.refl _ _).alloc (Nat.le_refl _) _
  have hr : (execOp (fr N E ds).eval ⟨some d, .buildSlice T 0 #[], ty, pos, af, none⟩).run P w = .ok (.value (.slice (some ⟨w.heap.size, 0, none⟩) 0 0)) (w.alloc (.cells #[] e)) := by
    simp [execOp, Instr.buildSlice, underlying, hT.und, run_sizeOf_ h2, h3, Instr.fill, newRow, (by decide : Array.range 0 = #[])]
  exact s_run rfl hr (.inr ⟨_, _, rfl, rfl, hd, h _ _ hbl (H.own_new hbl hown)⟩)

/-! ### Whole rows -/
theorem Stab.cells {α : Type} {d : Rp α} [h1 : OneC d] {sz : Nat} {a : Addr} {xs : List α} (h : Stab w M (Row d sz (some a) xs)) (hsz : 0 < sz) :
    ∃ news, news.length = xs.length * sz ∧ (∀ k u, news[k]? = some u → w.cell? (a.add k) = some u) ∧ (∀ u ∈ news, u.oneCell' = true) ∧ Stab w M (Chunks d sz xs news) := by
  let news := (List.range (xs.length * sz)).map fun k => (w.cell? (a.add k)).getD undef
  have hlen : news.length = xs.length * sz := by simp [news]
  have key : ∀ i x, xs[i]? = some x → ∃ cs, cs.length = sz ∧ Stab w M (fun w' => d w' x cs) ∧ (∀ j u, cs[j]? = some u → w.cell? (a.add (i * sz + j)) = some u) ∧ (news.drop (i * sz)).take sz = cs := by
    intro i x hx
    obtain ⟨a', cs, ha, hl, hd, hc⟩ := h.elem hsz hx
    injection ha with ha; subst ha
    refine ⟨cs, hl, hd, fun j u hu => (hc j u hu).now, ?_⟩
    have hi := (List.getElem?_eq_some_iff.1 hx).1
    have hb : (i + 1) * sz ≤ xs.length * sz := Nat.mul_le_mul_right _ hi
    rw [Nat.add_mul, Nat.one_mul] at hb
    apply List.ext_getElem
    · simp only [List.length_take, List.length_drop, hlen, hl]; omega
    · intro j h1 h2
      have := (hc j _ (List.getElem?_eq_getElem h2)).now
      simp [news, this]
  have back : ∀ k u, news[k]? = some u → ∃ (i : Nat) (x : α) (cs : List Value), xs[i]? = some x ∧ cs.length = sz ∧ d w x cs ∧ u ∈ cs ∧ w.cell? (a.add k) = some u := by
    intro k u hu
    have hk : k < xs.length * sz := by rw [← hlen]; exact (List.getElem?_eq_some_iff.1 hu).1
    have hi : k / sz < xs.length := Nat.div_lt_of_lt_mul (by rw [Nat.mul_comm]; exact hk)
    obtain ⟨cs, hl, hd, hc, _⟩ := key (k / sz) _ (List.getElem?_eq_getElem hi)
    have hj : k % sz < cs.length := by rw [hl]; exact Nat.mod_lt _ hsz
    have hcell := hc (k % sz) _ (List.getElem?_eq_getElem hj)
    have hkk : k / sz * sz + k % sz = k := by rw [Nat.mul_comm]; exact Nat.div_add_mod k sz
    rw [hkk] at hcell
    have hu' : u = cs[k % sz] := by
      have : news[k]? = some ((w.cell? (a.add k)).getD undef) := by simp [news, hk]
      rw [this, hcell] at hu
      simpa using hu.symm
    exact ⟨_, _, cs, List.getElem?_eq_getElem hi, hl, hd.now, by rw [hu']; exact List.getElem_mem _, by rw [hcell, hu']⟩
  refine ⟨news, hlen, fun k u hu => ?_, fun u hu => ?_, ?_⟩
  · obtain ⟨_, _, _, _, _, _, _, h⟩ := back k u hu; exact h
  · obtain ⟨k, hk⟩ := List.mem_iff_getElem?.1 hu
    obtain ⟨_, _, _, _, _, hd, hm, _⟩ := back k u hk
    exact h1.one hd u hm
  · intro w' hs hw
    refine ⟨hlen, fun i x hx => ?_⟩
    obtain ⟨cs, _, hd, _, he⟩ := key i x hx
    rw [he]; exact hd w' hs hw
theorem Chunks.append {α : Type} {d : Rp α} {sz : Nat} {xs ys : List α} {cs cy : List Value} (h : Chunks d sz xs cs w) (hy : Chunks d sz ys cy w) : Chunks d sz (xs ++ ys) (cs ++ cy) w := by
  refine ⟨by rw [List.length_append, h.len, hy.len, List.length_append, Nat.add_mul], fun j q hq => ?_⟩
  rcases Nat.lt_or_ge j xs.length with hj | hj
  · rw [List.getElem?_append_left hj] at hq
    have h1 : j * sz + sz ≤ cs.length := by rw [h.len, ← Nat.succ_mul]; exact Nat.mul_le_mul_right _ hj
    rw [List.drop_append_of_le_length (by omega), List.take_append_of_le_length (by rw [List.length_drop]; omega)]
    exact h.at_ j q hq
  · rw [List.getElem?_append_right hj] at hq
    have : j * sz = cs.length + (j - xs.length) * sz := by rw [h.len, ← Nat.add_mul, Nat.add_sub_cancel' hj]
    rw [this, List.drop_append, List.drop_of_length_le (by omega)]
    simpa using hy.at_ _ q hq
theorem Stab.app {α : Type} {d : Rp α} {sz : Nat} {xs ys : List α} {cs cy : List Value} (h : Stab w M (Chunks d sz xs cs)) (hy : Stab w M (Chunks d sz ys cy)) : Stab w M (Chunks d sz (xs ++ ys) (cs ++ cy)) :=
  fun w' hs hw => (h w' hs hw).append (hy w' hs hw)
theorem chunks_int {k : IntKind} {xs : List Int} {cs : List Value} (h : Chunks (kInt k) 1 xs cs w) : cs = xs.map (Value.int k) := by
  apply List.ext_getElem
  · rw [h.len]; simp
  · intro i h1 h2
    have hi : i < xs.length := by simpa using h2
    have := (h.at_ i _ (List.getElem?_eq_getElem hi)).1
    rw [Nat.mul_one, List.take_one, List.head?_drop, List.getElem?_eq_getElem h1] at this
    simp only [Option.toList] at this
    injection this with this
    simp [this]
/-- 'append(v, ys...)' where ys is a row that is read. -/
theorem s_append_row {α : Type} {dd : Rp α} [hone : OneC dd] {j e sz by_ : Nat} [hT : SlTy P T e sz by_] {A : Option Addr} {n c : Nat} {xs : List α} {cs : List Value} (H : Hp w0 M w L O F) (hO : O[j]? = some ⟨v, e, sz, n, cs⟩)
    (hx : Ev N E x v) (hy : Ev N E y (.slice A xs.length c)) (hm : Row dd sz A xs ∈ F) (hb : (n + xs.length) * by_ ≤ 140737488355328) (hd : Nat.blt d N = true)
    (h : ∀ v' w' news, Gr w w' v v' → Chunks dd sz xs news w → Hp w0 M w' L (O.set j ⟨v', e, sz, n + xs.length, cs ++ news⟩) (Chunks dd sz xs news :: F) → K ((d, v') :: E) w') :
    St P ops Q ⟨some d, .call { callee := .builtin .append, args := #[x, y], argTypes := #[T, T] }, ty, pos, af, none⟩ N E ds w K := by
  have hst := H.fact _ hm
  cases A with
  | some a =>
    obtain ⟨news, h1, h2, h3, h4⟩ := hst.cells hT.pos.1
    exact s_append (H.add h4) hO hx hy h1 h2 h3 hb hd fun v' w' hG H' => h v' w' news hG h4.now H'
  | none =>
    have hxs : xs = [] := by
      apply Classical.byContradiction; intro hne
      obtain ⟨a, ha, _⟩ := hst.now.at_ hne
      cases ha
    subst hxs
    obtain ⟨i, h2, h3, h4, z, h5, h6⟩ := hT.inf
    have hown := H.own _ (List.mem_of_getElem? hO)
    have hch : Stab w (Mu M L O) (Chunks dd sz ([] : List α) []) := fun _ _ _ => Chunks.nil
    have hset : O.set j ⟨v, e, sz, n + 0, cs ++ []⟩ = O := by
      rw [Nat.add_zero, List.append_nil]
      obtain ⟨hj, he⟩ := List.getElem?_eq_some_iff.1 hO
      rw [← he]; exact List.set_getElem_self hj
    have hfin : Hp w0 M w L (O.set j ⟨v, e, sz, n + ([] : List α).length, cs ++ []⟩) (Chunks dd sz ([] : List α) [] :: F) := by
      have := H.add hch
      show Hp w0 M w L (O.set j ⟨v, e, sz, n + 0, cs ++ []⟩) _
      rw [hset]; exact this
    refine s_run (w' := w) (r := .value v) rfl ?_ (.inr ⟨_, _, rfl, rfl, hd, h v w [] ⟨fun _ _ _ hb _ => hb, fun _ _ hv => hv⟩ Chunks.nil hfin⟩)
    rcases hown.2 with ⟨hv, hn⟩ | ⟨gg, cap, cur, hv, r1, r2, r3, r4⟩
    · simp only at hv hn; subst hv
      simp [execOp, resolve, invoke, builtin, fr_eval hx, fr_eval hy, Builtin.append_, Builtin.lenOf, Builtin.firstCells, underlying, hT.und, run_sizeOf_ h2]
    · simp only at hv; subst hv
      simp only at r3
      simp [execOp, resolve, invoke, builtin, fr_eval hx, fr_eval hy, Builtin.append_, Builtin.lenOf, Builtin.firstCells, underlying, hT.und, run_sizeOf_ h2, r3, storeCells]

theorem g_min (h : Rd P ⟨dst, .call { callee := .builtin .min, args := #[x, y], argTypes := #[T, T'] }, ty, pos, af, g⟩ N E w v) : Rd P ⟨dst, .call { callee := .builtin .min, args := #[x, y], argTypes := #[T, T'] }, ty, pos, af, g⟩ N E w v := h
theorem g_max (h : Rd P ⟨dst, .call { callee := .builtin .max, args := #[x, y], argTypes := #[T, T'] }, ty, pos, af, g⟩ N E w v) : Rd P ⟨dst, .call { callee := .builtin .max, args := #[x, y], argTypes := #[T, T'] }, ty, pos, af, g⟩ N E w v := h
theorem rd_auto3 {o : Oper} (hr : Rd P o N E w v := by
      first
      | exact rd_auto2
      | (apply g_min; exact rd_min ⟨rfl, rfl⟩ ⟨rfl, rfl⟩)
      | (apply g_max; exact rd_max ⟨rfl, rfl⟩ ⟨rfl, rfl⟩)
      | (apply g_bin; first | exact rd_slnil ⟨rfl, rfl⟩ | exact rd_slnnil ⟨rfl, rfl⟩)) : Rd P o N E w v := hr
/-! ### Elements whose cells are known -/
class Det {α : Type} (d : Rp α) (f : outParam (α → List Value)) : Prop where
  det : ∀ {w x cs}, d w x cs → cs = f x
theorem rd_load_epd {α : Type} {dd : Rp α} {f : α → List Value} {sz : Nat} [hT : AgT P T sz] [hD : Det dd f] (H : Hp w0 M w L O F) {A : Option Addr} {xs : List α} {i : Nat} {u : α}
    (hp : Ev N E x (ep A i sz 0)) (hm : Row dd sz A xs ∈ F) (hs : Nat.blt 0 sz = true) (hu : xs[i]? = some u) : Rd P ⟨dst, .load T x, ty, pos, af, g⟩ N E w (.agg (f u).toArray) := by
  obtain ⟨a, cs, rfl, hl, hd, hc⟩ := (H.fact _ hm).elem (by simpa using hs) hu
  rw [← hD.det hd.now]
  refine rd_load_ag hp hl fun j u hu => ?_
  have := (hc j u hu).now
  rwa [add_add, Nat.add_zero]

/-! ### Reads of rows of one's own -/
theorem own_int {k : IntKind} {cur : List Int} {i : Nat} (h : i < cur.length) : (cur.map (Value.int k))[i * 1 + 0]? = some (.int k cur[i]) := by simp [h]
theorem own_set {k : IntKind} {cur : List Int} {i : Nat} {x : Int} : (cur.map (Value.int k)).set (i * 1 + 0) (.int k x) = (cur.set i x).map (Value.int k) := by simp
theorem rd_auto4 {o : Oper} (hr : Rd P o N E w v := by
      first
      | exact rd_auto3
      | (apply g_load; exact rd_load_epd (by assumption) ⟨rfl, rfl⟩ mem_auto rfl (List.getElem?_eq_getElem (by omega)))
      | (apply g_len; first | exact rd_len_own (j := 0) (by assumption) rfl ⟨rfl, rfl⟩ | exact rd_len_own (j := 1) (by assumption) rfl ⟨rfl, rfl⟩)
      | (apply g_indexAddr; first | exact rd_index_own (j := 0) (v := .slice _ _ _) (by assumption) rfl ⟨rfl, rfl⟩ ⟨rfl, rfl⟩ (by first | rfl | exact (Int.toNat_of_nonneg (by omega)).symm) (by omega) | exact rd_index_own (j := 1) (v := .slice _ _ _) (by assumption) rfl ⟨rfl, rfl⟩ ⟨rfl, rfl⟩ (by first | rfl | exact (Int.toNat_of_nonneg (by omega)).symm) (by omega))
      | (apply g_fieldAddr; first | exact rd_field_op (j := 0) (by assumption) ⟨rfl, rfl⟩ rfl (by omega) | exact rd_field_op (j := 1) (by assumption) ⟨rfl, rfl⟩ rfl (by omega))
      | (apply g_load; first | exact rd_load_op (j := 0) (by assumption) ⟨rfl, rfl⟩ rfl (by omega) (own_int (by omega)) | exact rd_load_op (j := 1) (by assumption) ⟨rfl, rfl⟩ rfl (by omega) (own_int (by omega)))) : Rd P o N E w v := hr
/-! ### New rows that are handed back -/
/-- All of it is new, and the caller's own. -/
def Fresh {α : Type} (d : Rp α) (e sz : Nat) (M : Nat → Prop) (w : World) (xs : List α) (v : Value) (w' : World) : Prop :=
  ∃ cs, w'.ownsRow w.heap.size e sz v xs.length cs ∧ Stab w' (fun b => M b ∨ v.ownBlock = some b) (Chunks d sz xs cs)
theorem Hp.fresh {α : Type} {dd : Rp α} {j e sz n : Nat} {xs : List α} {cs : List Value} (H : Hp w0 M w L O F) (hO : O[j]? = some ⟨v, e, sz, n, cs⟩) (hm : Chunks dd sz xs cs ∈ F) (hn : n = xs.length) : Fresh dd e sz M w0 xs v w := by
  have hmem := List.mem_of_getElem? hO
  subst hn
  refine ⟨cs, H.own _ hmem, (H.fact _ hm).mono ?_⟩
  rintro b (h | h)
  · exact .inl h
  · exact .inr (.inr ⟨_, hmem, h⟩)
theorem Hp.fresh_nil {α : Type} {dd : Rp α} {e sz : Nat} (H : Hp w0 M w L O F) : Fresh dd e sz M w0 ([] : List α) (.slice none 0 0) w :=
  ⟨[], World.ownsRow_nil _ _ _ _, fun _ _ _ => Chunks.nil⟩
theorem Hp.take {α : Type} {dd : Rp α} {e sz : Nat} {xs : List α} (H : Hp w0 M w L O F) (hb : Below w.heap.size w w') (hf : Fresh dd e sz (Mu M L O) w xs v w') :
    ∃ cs, cs.length = xs.length * sz ∧ Hp w0 M w' L (⟨v, e, sz, xs.length, cs⟩ :: O) (Chunks dd sz xs cs :: F) := by
  obtain ⟨cs, ho, hc⟩ := hf
  refine ⟨cs, ho.1, (H.own_new hb ho).add (hc.mono ?_)⟩
  rintro b (h | h | ⟨o, h, h2⟩)
  · exact .inl (.inl h)
  · exact .inl (.inr (.inl h))
  · rcases List.mem_cons.1 h with rfl | h
    · exact .inr h2
    · exact .inl (.inr (.inr ⟨o, h, h2⟩))
/-- A row of one's own is written no more. -/
theorem Hp.sealA {α : Type} {dd : Rp α} {e sz n : Nat} {xs : List α} {cs : List Value} (H : Hp w0 M w L (⟨v, e, sz, n, cs⟩ :: O) (Chunks dd sz xs cs :: F)) (hM : ∀ b, M b → b < w0.heap.size) (hsz : 0 < sz) (hn : n = xs.length) (hbd : xs.length ≤ 140737488355328) :
    ∃ A c, v = .slice A xs.length c ∧ xs.length ≤ c ∧ c ≤ 9223372036854775807 ∧ Hp w0 M w L O (Row dd sz A xs :: F) := by
  have hmono : ∀ b, Mu M L O b → Mu M L (⟨v, e, sz, n, cs⟩ :: O) b := by
    rintro b (h | h | ⟨o, h, h2⟩)
    · exact .inl h
    · exact .inr (.inl h)
    · exact .inr (.inr ⟨o, List.mem_cons_of_mem _ h, h2⟩)
  have hdis : ∀ b, v.ownBlock = some b → ¬ Mu M L O b := by
    rintro b hb (h | ⟨l, hl, rfl⟩ | ⟨o, h, h2⟩)
    · have h1 := ((H.own _ (List.mem_cons_self ..)).lt b hb).1
      have h2 := hM b h
      omega
    · exact H.lo l hl _ (List.mem_cons_self ..) hb
    · rcases (List.pairwise_cons.1 H.od).1 o h with h3 | h3
      · simp only at h3; rw [h3] at hb; cases hb
      · simp only at h3; exact h3 (hb.trans h2.symm)
  have hmem : (⟨v, e, sz, n, cs⟩ : Own) ∈ (⟨v, e, sz, n, cs⟩ :: O) := List.mem_cons_self ..
  obtain ⟨A, c, h1, h2, h3, h4⟩ := own_row (H.own _ hmem) (H.fact _ (List.mem_cons_self ..)) hsz (fun b hb => .inr (.inr ⟨_, hmem, hb⟩)) hn hbd hmono hdis
  refine ⟨A, c, h1, h2, h3, ⟨H.below, H.loc, fun o ho => H.own o (List.mem_cons_of_mem _ ho), H.nd, (List.pairwise_cons.1 H.od).2, fun l hl o ho => H.lo l hl o (List.mem_cons_of_mem _ ho), ?_⟩⟩
  intro f hf
  rcases List.mem_cons.1 hf with rfl | hf
  · exact h4
  · exact (H.fact f (List.mem_cons_of_mem _ hf)).mono hmono
theorem Hp.takeRow {α : Type} {dd : Rp α} {e sz : Nat} {xs : List α} (H : Hp w0 M w L O F) (hb : Below w.heap.size w w') (hf : Fresh dd e sz (Mu M L O) w xs v w') (hM : ∀ b, M b → b < w0.heap.size) (hsz : 0 < sz) (hbd : xs.length ≤ 140737488355328) :
    ∃ A c, v = .slice A xs.length c ∧ xs.length ≤ c ∧ c ≤ 9223372036854775807 ∧ Hp w0 M w' L O (Row dd sz A xs :: F) := by
  obtain ⟨cs, _, h⟩ := H.take hb hf
  exact h.sealA hM hsz rfl hbd
/-! ### Rows of one's own, as slices -/
theorem own_sl {j e sz n : Nat} {cs : List Value} (H : Hp w0 M w L O F) (hO : O[j]? = some ⟨v, e, sz, n, cs⟩) : ∃ A c, v = .slice A n c ∧ n ≤ c ∧ c ≤ 9223372036854775807 := by
  rcases (H.own _ (List.mem_of_getElem? hO)).2 with ⟨h1, h2⟩ | ⟨g, cap, _, h1, _, _, h4, h5, _⟩
  · simp only at h1 h2; subst h2; exact ⟨none, 0, h1, Nat.le_refl _, by omega⟩
  · exact ⟨_, cap, h1, h4, by simp only [maxLen] at h5; omega⟩
theorem t_build0 {e sz by_ : Nat} [hT : SlTy P T e sz by_] (H : Hp w0 M w L O F) (hd : Nat.blt d N = true)
    (h : ∀ A c w', Below w.heap.size w w' → Hp w0 M w' L (⟨.slice A 0 c, e, sz, 0, []⟩ :: O) F → K ((d, .slice A 0 c) :: E) w') : St P ops Q ⟨some d, .buildSlice T 0 #[], ty, pos, af, none⟩ N E ds w K :=
  s_build0 H hd fun v w' hb H' => by obtain ⟨A, c, rfl, _⟩ := own_sl (j := 0) H' rfl; exact h A c w' hb H'
theorem t_build0m {e sz by_ : Nat} [hT : SlTy P T e sz by_] (H : Hp w0 M w L O F) (hd : Nat.blt d N = true)
    (h : ∀ A c w', Below w.heap.size w w' → (∀ b, (Value.slice A 0 c).ownBlock = some b → w.heap.size ≤ b) → Hp w0 M w' L (⟨.slice A 0 c, e, sz, 0, []⟩ :: O) F → K ((d, .slice A 0 c) :: E) w') : St P ops Q ⟨some d, .buildSlice T 0 #[], ty, pos, af, none⟩ N E ds w K := by
  obtain ⟨i, h2, h3, h4, z, h5, h6⟩ := hT.inf
  have hown := World.ownsRow_lit (base := w.heap.size) (e := e) (size := sz) w #[] 0 (Nat.le_refl _) (by decide) (by simp)
  have hbl : Below w.heap.size w (w.alloc (.cells #[] e)) := (Below.refl _ _).alloc (Nat.le_refl _) _
  have hr : (execOp (fr N E ds).eval ⟨some d, .buildSlice T 0 #[], ty, pos, af, none⟩).run P w = .ok (.value (.slice (some ⟨w.heap.size, 0, none⟩) 0 0)) (w.alloc (.cells #[] e)) := by
    simp [execOp, Instr.buildSlice, underlying, hT.und, run_sizeOf_ h2, h3, Instr.fill, newRow, (by decide : Array.range 0 = #[])]
  exact s_run rfl hr (.inr ⟨_, _, rfl, rfl, hd, h _ _ _ hbl (fun b hb => (hown.lt b hb).1) (H.own_new hbl hown)⟩)
theorem t_make {e sz by_ n : Nat} {z0 : Value} [hT : SlTy P T e sz by_] [hz : ZrT P e (List.replicate sz z0)] (H : Hp w0 M w L O F) (hx : Ev N E x (.int .i64 a)) (hy : Ev N E y (.int .i64 a)) (ha : a = (n : Int)) (hb : n * by_ ≤ 140737488355328) (hd : Nat.blt d N = true)
    (h : ∀ A c w', Below w.heap.size w w' → Hp w0 M w' L (⟨.slice A n c, e, sz, n, List.replicate (n * sz) z0⟩ :: O) F → K ((d, .slice A n c) :: E) w') : St P ops Q ⟨some d, .makeSlice T x y, ty, pos, af, none⟩ N E ds w K :=
  s_make H hx hy ha hb hd fun v w' hb H' => by obtain ⟨A, c, rfl, _⟩ := own_sl (j := 0) H' rfl; exact h A c w' hb H'
theorem t_make0 {e sz by_ n : Nat} [hT : SlTy P T e sz by_] (H : Hp w0 M w L O F) (hx : Ev N E x (.int .i64 0)) (hy : Ev N E y (.int .i64 a)) (ha : a = (n : Int)) (hb : n * by_ ≤ 140737488355328) (hd : Nat.blt d N = true)
    (h : ∀ A c w', Below w.heap.size w w' → Hp w0 M w' L (⟨.slice A 0 c, e, sz, 0, []⟩ :: O) F → K ((d, .slice A 0 c) :: E) w') : St P ops Q ⟨some d, .makeSlice T x y, ty, pos, af, none⟩ N E ds w K :=
  s_make0 H hx hy ha hb hd fun v w' hb H' => by obtain ⟨A, c, rfl, _⟩ := own_sl (j := 0) H' rfl; exact h A c w' hb H'
theorem set_get_own {j : Nat} {o o' : Own} (h : O[j]? = some o) : (O.set j o')[j]? = some o' := by
  have := (List.getElem?_eq_some_iff.1 h).1
  simp [this]
theorem t_append {j e sz by_ : Nat} [hT : SlTy P T e sz by_] {A : Addr} {n m c : Nat} {cs news : List Value} (H : Hp w0 M w L O F) (hO : O[j]? = some ⟨v, e, sz, n, cs⟩)
    (hx : Ev N E x v) (hy : Ev N E y (.slice (some A) m c)) (hl : news.length = m * sz) (hnews : ∀ i u, news[i]? = some u → w.cell? (A.add i) = some u) (h1 : ∀ u ∈ news, u.oneCell' = true)
    (hb : (n + m) * by_ ≤ 140737488355328) (hd : Nat.blt d N = true)
    (h : ∀ A' c' w', Gr w w' v (.slice A' (n + m) c') → Hp w0 M w' L (O.set j ⟨.slice A' (n + m) c', e, sz, n + m, cs ++ news⟩) F → K ((d, .slice A' (n + m) c') :: E) w') :
    St P ops Q ⟨some d, .call { callee := .builtin .append, args := #[x, y], argTypes := #[T, T] }, ty, pos, af, none⟩ N E ds w K :=
  s_append H hO hx hy hl hnews h1 hb hd fun v' w' hG H' => by obtain ⟨A, c, rfl, _⟩ := own_sl (j := j) H' (set_get_own hO); exact h A c w' hG H'
theorem t_append_row {α : Type} {dd : Rp α} [hone : OneC dd] {j e sz by_ : Nat} [hT : SlTy P T e sz by_] {A : Option Addr} {n c : Nat} {xs : List α} {cs : List Value} (H : Hp w0 M w L O F) (hO : O[j]? = some ⟨v, e, sz, n, cs⟩)
    (hx : Ev N E x v) (hy : Ev N E y (.slice A xs.length c)) (hm : Row dd sz A xs ∈ F) (hb : (n + xs.length) * by_ ≤ 140737488355328) (hd : Nat.blt d N = true)
    (h : ∀ A' c' w' news, Gr w w' v (.slice A' (n + xs.length) c') → Chunks dd sz xs news w → Hp w0 M w' L (O.set j ⟨.slice A' (n + xs.length) c', e, sz, n + xs.length, cs ++ news⟩) (Chunks dd sz xs news :: F) → K ((d, .slice A' (n + xs.length) c') :: E) w') :
    St P ops Q ⟨some d, .call { callee := .builtin .append, args := #[x, y], argTypes := #[T, T] }, ty, pos, af, none⟩ N E ds w K :=
  s_append_row H hO hx hy hm hb hd fun v' w' news hG hn H' => by obtain ⟨A, c, rfl, _⟩ := own_sl (j := j) H' (set_get_own hO); exact h A c w' news hG hn H'
theorem Hp.take' {α : Type} {dd : Rp α} {e sz : Nat} {xs : List α} (H : Hp w0 M w L O F) (hb : Below w.heap.size w w') (hf : Fresh dd e sz (Mu M L O) w xs v w') :
    ∃ A c cs, v = .slice A xs.length c ∧ xs.length ≤ c ∧ cs.length = xs.length * sz ∧ Hp w0 M w' L (⟨.slice A xs.length c, e, sz, xs.length, cs⟩ :: O) (Chunks dd sz xs cs :: F) := by
  obtain ⟨cs, h1, h2⟩ := H.take hb hf
  obtain ⟨A, c, rfl, h3, _⟩ := own_sl (j := 0) h2 rfl
  exact ⟨A, c, cs, rfl, h3, h1, h2⟩
/-! ### Calls of values, the operands first -/
theorem k_callv {k : FuncId} [hk : FnT P k] {post : Value → World → Prop} {fv : Operand} {cap : List Value} {xs : List Operand} {vs : List Value} {tys : Array TypeId} (ha : Evs N E xs vs) (hv : Ev N E fv (.func (.func k) #[] cap.toArray))
    (H : Hp w0 M w L O F) (hc : Ret P k (vs ++ cap) w post) (hd : Nat.blt d N = true)
    (h : ∀ v w', post v w' → Below w.heap.size w w' → Hp w0 M w' L O F → K ((d, v) :: E) w') :
    St P ops Q ⟨some d, .call { callee := .value fv, args := xs.toArray, argTypes := tys }, ty, pos, af, none⟩ N E ds w K := s_callv H hc hv ha hd rfl h
theorem k_callv0 {k : FuncId} [hk : FnT P k] {post : Value → World → Prop} {fv : Operand} {xs : List Operand} {vs : List Value} {tys : Array TypeId} (ha : Evs N E xs vs) (hv : Ev N E fv (.func (.func k) #[] #[]))
    (H : Hp w0 M w L O F) (hc : Ret P k vs w post) (hd : Nat.blt d N = true)
    (h : ∀ v w', post v w' → Below w.heap.size w w' → Hp w0 M w' L O F → K ((d, v) :: E) w') :
    St P ops Q ⟨some d, .call { callee := .value fv, args := xs.toArray, argTypes := tys }, ty, pos, af, none⟩ N E ds w K := s_callv (cap := []) H (by simpa using hc) hv ha hd rfl h
theorem t_store_int {j e n m : Nat} {k : IntKind} {cur : List Int} [hT : ScT P T] (H : Hp w0 M w L O F) (hO : O[j]? = some ⟨v, e, 1, n, cur.map (Value.int k)⟩) (hp : Ev N E x (op v m 1 0)) (hm : m < n) (hy : Ev N E y (.int k a))
    (h : ∀ w', Hp w0 M w' L (O.set j ⟨v, e, 1, n, (cur.set m a).map (Value.int k)⟩) F → K E w') : St P ops Q ⟨none, .store T x y, ty, pos, af, none⟩ N E ds w K :=
  s_store_op H hp hO hm (by decide) hy rfl fun w' H' => h w' (by rwa [own_set] at H')
/-! ### Less is known; whole numbers -/
theorem Hp.weak (H : Hp w0 M w L O F) {L' : List Loc} {O' : List Own} {F' : List (World → Prop)} (hL : L'.Sublist L) (hO : O'.Sublist O) (hF : ∀ f ∈ F', f ∈ F) : Hp w0 M w L' O' F' :=
  ⟨H.below, fun l hl => H.loc l (hL.subset hl), fun o ho => H.own o (hO.subset ho), (hL.map _).nodup H.nd, H.od.sublist hO, fun l hl o ho => H.lo l (hL.subset hl) o (hO.subset ho),
   fun f hf => (H.fact f (hF f hf)).mono fun b hb => by
    rcases hb with h | ⟨l, hl, h⟩ | ⟨o, ho, h⟩
    · exact .inl h
    · exact .inr (.inl ⟨l, hL.subset hl, h⟩)
    · exact .inr (.inr ⟨o, hO.subset ho, h⟩)⟩
theorem chunks_pure {k : IntKind} {xs : List Int} {cs : List Value} (h : Chunks (kInt k) 1 xs cs w) (w' : World) : Chunks (kInt k) 1 xs cs w' := ⟨h.len, fun i x hx => h.at_ i x hx⟩
theorem Fresh.int {k : IntKind} {e : Nat} {xs : List Int} {M' : Nat → Prop} (h : Fresh (kInt k) e 1 M w xs v w') : Fresh (kInt k) e 1 M' w xs v w' := by
  obtain ⟨cs, h1, h2⟩ := h
  exact ⟨cs, h1, fun w'' _ _ => chunks_pure h2.now w''⟩
theorem Hp.own_row0 {k : IntKind} {xs : List Int} {A : Option Addr} {c e n j : Nat} (H : Hp w0 M w L O F) (hO : O[j]? = some ⟨.slice A n c, e, 1, n, xs.map (Value.int k)⟩) (hr : ∀ x ∈ xs, rng k x) (hn : n = xs.length) (hl : n ≤ 140737488355328) : Stab w (fun _ => False) (Row (kInt k) 1 A xs) := by
  subst hn
  obtain ⟨A', c', h1, _, _, h4⟩ := own_row (M := fun _ => True) (M1 := fun _ => False) (H.own _ (List.mem_of_getElem? hO)) (fun w'' _ _ => chunks_ints hr) Nat.zero_lt_one (fun _ _ => trivial) rfl hl (fun _ h => h.elim) (fun _ _ h => h)
  simp only at h1
  injection h1 with h1 _ _
  subst h1
  exact h4
theorem Stab.none {f : World → Prop} (h : Stab w M f) : Stab w (fun _ => False) f := h.mono fun _ h => h.elim
end
end Go.Proofs.YtiolpldihoghiaaDoor
namespace Go.Proofs.YtiolpldihoghiaaDoor
open Go.RowKit
set_option linter.unusedVariables false
set_option linter.unusedSimpArgs false

section
variable {P : Program} {N : Nat} {E : List (Nat × Value)} {ds : List Deferred} {ops : Array Oper} {rest : List Oper} {Q Q' : Exit → Act → World → Prop}
variable {d : Nat} {o : Op} {dst : Option Tmp} {ty : TypeId} {pos : String} {af : Array Edge} {g : Option (Nat × Bool)} {w w' ws : World} {v v' : Value} {x y z : Operand} {T T' u : TypeId} {a b : Int}
variable {w0 : World} {M : Nat → Prop} {L : List Loc} {O : List Own} {F : List (World → Prop)} {K : List (Nat × Value) → World → Prop}

/-! ### Rows whose elements' cells are f's -/
theorem flat_len {α : Type} {f : α → List Value} {sz : Nat} (hf : ∀ x, (f x).length = sz) (xs : List α) : (xs.flatMap f).length = xs.length * sz := by
  induction xs with
  | nil => simp
  | cons x xs ih => simp [hf, ih, Nat.add_mul]; omega
theorem flat_drop {α : Type} {f : α → List Value} {sz : Nat} (hf : ∀ x, (f x).length = sz) (xs : List α) (m : Nat) : (xs.flatMap f).drop (m * sz) = (xs.drop m).flatMap f := by
  induction m generalizing xs with
  | zero => simp
  | succ m ih =>
    cases xs with
    | nil => simp
    | cons x xs =>
      rw [List.flatMap_cons, List.drop_succ_cons, ← ih, Nat.add_mul, Nat.one_mul, Nat.add_comm, ← List.drop_drop]
      congr 1
      rw [List.drop_append_of_le_length (by rw [hf]; omega), List.drop_of_length_le (by rw [hf]; omega), List.nil_append]
theorem own_det {α : Type} {f : α → List Value} {sz : Nat} (hf : ∀ x, (f x).length = sz) {xs : List α} {m i : Nat} {q : Value} (hm : m < xs.length) (hi : i < sz) (hv : (f xs[m])[i]? = some q) : (xs.flatMap f)[m * sz + i]? = some q := by
  rw [← List.getElem?_drop, flat_drop hf, List.drop_eq_getElem_cons hm, List.flatMap_cons, List.getElem?_append_left (by rw [hf]; exact hi)]
  exact hv
theorem flat_set {α : Type} {f : α → List Value} {sz : Nat} (hf : ∀ x, (f x).length = sz) {i : Nat} {q : Value} (hi : i < sz) : ∀ (xs : List α) (m : Nat) (hm : m < xs.length) (x' : α), (f xs[m]).set i q = f x' → (xs.flatMap f).set (m * sz + i) q = (xs.set m x').flatMap f
  | x :: xs, 0, hm, x', h => by
    simp only [List.getElem_cons_zero] at h
    rw [Nat.zero_mul, Nat.zero_add, List.flatMap_cons, List.set_append_left _ _ (by rw [hf]; exact hi), h]; simp
  | x :: xs, m + 1, hm, x', h => by
    simp only [List.getElem_cons_succ] at h
    have := flat_set hf hi xs m (by simpa using hm) x' h
    rw [List.flatMap_cons, List.set_append_right _ _ (by rw [hf, Nat.add_mul]; omega), hf, show (m + 1) * sz + i - sz = m * sz + i from by rw [Nat.add_mul]; omega, this]; simp
theorem flat_snoc {α : Type} {f : α → List Value} (xs : List α) (x : α) : xs.flatMap f ++ f x = (xs ++ [x]).flatMap f := by simp
theorem flat_chunks {α : Type} {f : α → List Value} {dd : Rp α} {sz : Nat} (hf : ∀ x, (f x).length = sz) {xs : List α} (h : ∀ x ∈ xs, dd w x (f x)) : Chunks dd sz xs (xs.flatMap f) w := by
  refine ⟨flat_len hf xs, fun i x hx => ?_⟩
  obtain ⟨hi, he⟩ := List.getElem?_eq_some_iff.1 hx
  rw [flat_drop hf, List.drop_eq_getElem_cons hi, List.flatMap_cons, List.take_append_of_le_length (by rw [hf]; exact Nat.le_refl _), List.take_of_length_le (by rw [hf]; exact Nat.le_refl _), he]
  exact h x (List.mem_of_getElem? hx)

theorem t_store_flat {α : Type} {f : α → List Value} {j e sz n m i : Nat} {xs : List α} {q : Value} [hT : ScT P T] (x' : α) (H : Hp w0 M w L O F) (hO : O[j]? = some ⟨v, e, sz, n, xs.flatMap f⟩) (hp : Ev N E x (op v m sz i)) (hy : Ev N E y q)
    (hf : ∀ x, (f x).length = sz) (hn : n = xs.length) (hm : m < xs.length) (hi : i < sz) (h1 : q.oneCell' = true) (hx : (f xs[m]).set i q = f x')
    (h : ∀ w', Hp w0 M w' L (O.set j ⟨v, e, sz, n, (xs.set m x').flatMap f⟩) F → K E w') : St P ops Q ⟨none, .store T x y, ty, pos, af, none⟩ N E ds w K :=
  s_store_op H hp hO (by omega) hi hy h1 fun w' H' => h w' (by rwa [flat_set hf hi xs m hm x' hx] at H')

/-! ### One more element -/
theorem t_append1 {j i e sz by_ bb : Nat} [hT : SlTy P T e sz by_] {n : Nat} {cs news : List Value} {t : TypeId} (H : Hp w0 M w L O F) (hO : O[j]? = some ⟨v, e, sz, n, cs⟩) (hl : L[i]? = some ⟨bb, news, t⟩)
    (hx : Ev N E x v) (hy : Ev N E y (.slice (some ⟨bb, 0, none⟩) 1 1)) (hn : news.length = sz) (h1 : news.all (·.oneCell') = true) (hb : (n + 1) * by_ ≤ 140737488355328) (hd : Nat.blt d N = true)
    (h : ∀ A' c' w', Gr w w' v (.slice A' (n + 1) c') → Hp w0 M w' L (O.set j ⟨.slice A' (n + 1) c', e, sz, n + 1, cs ++ news⟩) F → K ((d, .slice A' (n + 1) c') :: E) w') :
    St P ops Q ⟨some d, .call { callee := .builtin .append, args := #[x, y], argTypes := #[T, T] }, ty, pos, af, none⟩ N E ds w K := by
  have hc := (H.loc _ (List.mem_of_getElem? hl)).2
  refine t_append H hO hx hy (by omega) (fun k q hq => ?_) (by simpa using h1) hb hd h
  rw [add_zero_, Nat.zero_add, cell_of_row w bb k _ _ _ hc]
  simpa using hq

/-! ### Comparing structs of whole numbers -/
def mk (ks : List IntKind) (xs : List Int) : List Value := List.zipWith Value.int ks xs
class EqT (P : Program) (T : TypeId) (ks : outParam (List IntKind)) : Prop where
  eq : ∀ (xs ys : List Int) (w : World), xs.length = ks.length → ys.length = ks.length → (Op.equalIn 10000 T (.agg (mk ks xs).toArray) (.agg (mk ks ys).toArray)).run P w = .ok (decide (xs = ys)) w
  guard : P.eqGuardType P.depth T = false
def okF (P : Program) : List Field → List IntKind → Nat → Bool
  | [], [], _ => true
  | f :: fs, k :: ks, o => f.name != "_" && (match P.underlying f.type with | some (.int _) => true | _ => false) && f.offset == o && okF P fs ks (o + 1)
  | _, _, _ => false
theorem run_part {k : IntKind} {cs : Array Value} {n : Int} {o : Nat} (hu : P.underlying T = some (.int k)) (h : cs[o]? = some v) : (part T cs o).run P w = .ok v w := by
  simp [part, isAgg, underlying, hu, h]
theorem eqFields_ints (dd : Nat) : ∀ (fs : List Field) (ks : List IntKind) (o : Nat) (xs ys : List Int) (A B : Array Value) (w : World), okF P fs ks o = true → xs.length = ks.length → ys.length = ks.length → A.toList.drop o = mk ks xs → B.toList.drop o = mk ks ys →
    (Op.eqFields (dd + 1) A B fs).run P w = .ok (decide (xs = ys)) w
  | [], [], o, xs, ys, A, B, w, _, hx, hy, _, _ => by
    obtain rfl := List.eq_nil_of_length_eq_zero hx
    obtain rfl := List.eq_nil_of_length_eq_zero hy
    simp [Op.eqFields]
  | f :: fs, k :: ks, o, x :: xs, y :: ys, A, B, w, h, hx, hy, hA, hB => by
    simp only [okF, Bool.and_eq_true, bne_iff_ne, ne_eq, beq_iff_eq] at h
    obtain ⟨⟨⟨h1, h2⟩, rfl⟩, h4⟩ := h
    obtain ⟨k', hu⟩ : ∃ k', P.underlying f.type = some (.int k') := by
      split at h2
      · exact ⟨_, by assumption⟩
      · cases h2
    have ga : A[f.offset]? = some (.int k x) := by
      have := congrArg (·[0]?) hA
      simpa [mk] using this
    have gb : B[f.offset]? = some (.int k y) := by
      have := congrArg (·[0]?) hB
      simpa [mk] using this
    have ta : A.toList.drop (f.offset + 1) = mk ks xs := by
      have := congrArg (List.drop 1) hA
      simpa [mk] using this
    have tb : B.toList.drop (f.offset + 1) = mk ks ys := by
      have := congrArg (List.drop 1) hB
      simpa [mk] using this
    have ih := eqFields_ints dd fs ks (f.offset + 1) xs ys A B w h4 (by simpa using hx) (by simpa using hy) ta tb
    rw [Op.eqFields, if_pos h1]
    simp only [Sem.run_bind, run_part (n := 0) hu ga, run_part (n := 0) hu gb, Result.andThen_ok, run_equalIn_int w dd f.type k k' x y hu]
    by_cases e : x = y
    · subst e; simp [ih]
    · simp [e]
theorem eqStruct {ks : List IntKind} (h : (match P.underlying T with | some (.struct fs) => okF P fs.toList ks 0 | _ => false) = true) (hs : P.stoodInHeld T = false) (hg : P.eqGuardType P.depth T = false) : EqT P T ks := by
  refine ⟨fun xs ys w hx hy => ?_, hg⟩
  split at h
  · rename_i fs hu
    have hf : P.fieldsOf T = fs := by simp [Program.fieldsOf, hu]
    have := run_equalIn_struct (P := P) w 9999 T (mk ks xs).toArray (mk ks ys).toArray (by rw [hf]; exact hu) hs
    rw [hf] at this
    exact this.trans (eqFields_ints 9998 fs.toList ks 0 xs ys _ _ w h hx hy (by simp) (by simp))
  · cases h
theorem rd_eq_ag {ks : List IntKind} [hE : EqT P T ks] {xs ys : List Int} (hx : Ev N E x (.agg (mk ks xs).toArray)) (hy : Ev N E y (.agg (mk ks ys).toArray)) (h1 : xs.length = ks.length) (h2 : ys.length = ks.length) : Rd P ⟨dst, .binOp .eql T x y u, ty, pos, af, g⟩ N E w (.bool (decide (xs = ys))) := by
  refine ⟨fun ds w' hw => ?_⟩
  simp only [execOp, fr_eval hx, fr_eval hy]
  simp [run_eqGuard_agg w' .eql T x y _ _ hE.guard, run_eql_struct, hE.eq xs ys w' h1 h2]
theorem rd_ne_ag {ks : List IntKind} [hE : EqT P T ks] {xs ys : List Int} (hx : Ev N E x (.agg (mk ks xs).toArray)) (hy : Ev N E y (.agg (mk ks ys).toArray)) (h1 : xs.length = ks.length) (h2 : ys.length = ks.length) : Rd P ⟨dst, .binOp .neq T x y u, ty, pos, af, g⟩ N E w (.bool (decide (xs ≠ ys))) := by
  refine ⟨fun ds w' hw => ?_⟩
  simp only [execOp, fr_eval hx, fr_eval hy]
  simp [run_eqGuard_agg w' .neq T x y _ _ hE.guard, run_neq_struct, hE.eq xs ys w' h1 h2]
theorem rd_ne2 {k1 k2 : IntKind} [hE : EqT P T [k1, k2]] {a b a' b' : Int} (hx : Ev N E x (.agg [.int k1 a, .int k2 b].toArray)) (hy : Ev N E y (.agg [.int k1 a', .int k2 b'].toArray)) : Rd P ⟨dst, .binOp .neq T x y u, ty, pos, af, g⟩ N E w (.bool (decide (¬(a = a' ∧ b = b')))) := by
  have := rd_ne_ag (dst := dst) (u := u) (ty := ty) (pos := pos) (af := af) (g := g) (w := w) (xs := [a, b]) (ys := [a', b']) (hE := hE) hx hy rfl rfl
  simpa using this
theorem rd_eq2 {k1 k2 : IntKind} [hE : EqT P T [k1, k2]] {a b a' b' : Int} (hx : Ev N E x (.agg [.int k1 a, .int k2 b].toArray)) (hy : Ev N E y (.agg [.int k1 a', .int k2 b'].toArray)) : Rd P ⟨dst, .binOp .eql T x y u, ty, pos, af, g⟩ N E w (.bool (decide (a = a' ∧ b = b'))) := by
  have := rd_eq_ag (dst := dst) (u := u) (ty := ty) (pos := pos) (af := af) (g := g) (w := w) (xs := [a, b]) (ys := [a', b']) (hE := hE) hx hy rfl rfl
  simpa using this
theorem rd_auto5 {o : Oper} (hr : Rd P o N E w v := by
      first
      | exact rd_auto4
      | (apply g_bin; first | exact rd_ne2 ⟨rfl, rfl⟩ ⟨rfl, rfl⟩ | exact rd_eq2 ⟨rfl, rfl⟩ ⟨rfl, rfl⟩)
      | (apply g_load; first | exact rd_load_op (j := 0) (by assumption) ⟨rfl, rfl⟩ rfl (by omega) (own_det (by intro _; rfl) (by omega) (by decide) (by rfl)) | exact rd_load_op (j := 1) (by assumption) ⟨rfl, rfl⟩ rfl (by omega) (own_det (by intro _; rfl) (by omega) (by decide) (by rfl)))) : Rd P o N E w v := hr
/-- Two lists are alike so far. -/
theorem take_step {α : Type} {xs ys : List α} {i : Nat} (h1 : i < xs.length) (h2 : i < ys.length) (h : xs.take i = ys.take i) (he : xs[i] = ys[i]) : xs.take (i + 1) = ys.take (i + 1) := by
  rw [List.take_succ_eq_append_getElem h1, List.take_succ_eq_append_getElem h2, h, he]
theorem take_all {α : Type} {xs ys : List α} (hl : xs.length = ys.length) (h : xs.take xs.length = ys.take xs.length) : xs = ys := by
  rwa [List.take_length, hl, List.take_length] at h
end
end Go.Proofs.YtiolpldihoghiaaDoor
namespace Go.Proofs.YtiolpldihoghiaaDoor
open Go.RowKit
set_option linter.unusedVariables false
set_option linter.unusedSimpArgs false

section
variable {P : Program} {N : Nat} {E : List (Nat × Value)} {ds : List Deferred} {ops : Array Oper} {rest : List Oper} {Q Q' : Exit → Act → World → Prop}
variable {d d1 : Nat} {o : Op} {dst : Option Tmp} {ty ty1 : TypeId} {pos pos1 : String} {af af1 : Array Edge} {g : Option (Nat × Bool)} {w w' ws : World} {v v' q : Value} {x y z : Operand} {T T' u : TypeId} {a b : Int}
variable {w0 : World} {M : Nat → Prop} {L : List Loc} {O : List Own} {F : List (World → Prop)} {K : List (Nat × Value) → World → Prop}

/-- 'append(v, z)': the slice of one element, and the append. -/
theorem l_app {j e sz by_ n : Nat} [hT : SlTy P T e sz by_] {cs news : List Value} (H : Hp w0 M w L O F) (hO : O[j]? = some ⟨v, e, sz, n, cs⟩) (hz : Ev N E z q) (hq : q.cells.toList = news) (hl : news.length = sz)
    (hsm : Nat.ble sz 16777216 = true) (h1 : news.all (·.oneCell') = true) (hd1 : Nat.blt d1 N = true) (hx : ∀ q', Ev N ((d1, q') :: E) x v) (hb : (n + 1) * by_ ≤ 140737488355328) (hd : Nat.blt d N = true)
    (h : ∀ A' c' w' q', Gr w w' v (.slice A' (n + 1) c') → Hp w0 M w' L (O.set j ⟨.slice A' (n + 1) c', e, sz, n + 1, cs ++ news⟩) F → WL P ops Q rest N ((d, .slice A' (n + 1) c') :: (d1, q') :: E) ds w') :
    WL P ops Q (⟨some d1, .buildSlice T 1 #[(0, z)], ty1, pos1, af1, none⟩ :: ⟨some d, .call { callee := .builtin .append, args := #[x, .tmp d1], argTypes := #[T, T] }, ty, pos, af, none⟩ :: rest) N E ds w := by
  refine l_st (s_slice1 H hz hq hl hsm hd1 ?_)
  intro w1 b1 hb1 H1
  refine l_st (t_append1 (j := j) (i := 0) H1 hO rfl (hx _) ⟨by simpa [okx] using hd1, get_cons_same _ _⟩ hl h1 hb hd ?_)
  intro A' c' w2 hG H2
  refine h A' c' w2 _ ⟨fun n ws hn hbl hv => hG.below n ws (Nat.le_trans hn hb1.size) (hbl.trans (hb1.mono hn)) hv, fun n hn hv => hG.ge n (Nat.le_trans hn hb1.size) hv⟩ (H2.weak (.cons _ (List.Sublist.refl _)) (List.Sublist.refl _) (fun f hf => hf))
/-- The row's cells are f's. -/
theorem l_appf {α : Type} {f : α → List Value} {j e sz by_ : Nat} [hT : SlTy P T e sz by_] {xs : List α} (x1 : α) (H : Hp w0 M w L O F) (hO : O[j]? = some ⟨v, e, sz, xs.length, xs.flatMap f⟩) (hz : Ev N E z (.agg (f x1).toArray)) (hl : (f x1).length = sz)
    (hsm : Nat.ble sz 16777216 = true) (h1 : (f x1).all (·.oneCell') = true) (hd1 : Nat.blt d1 N = true) (hx : ∀ q', Ev N ((d1, q') :: E) x v) (hb : (xs.length + 1) * by_ ≤ 140737488355328) (hd : Nat.blt d N = true)
    (h : ∀ A' c' w' q', Hp w0 M w' L (O.set j ⟨.slice A' (xs ++ [x1]).length c', e, sz, (xs ++ [x1]).length, (xs ++ [x1]).flatMap f⟩) F → WL P ops Q rest N ((d, .slice A' (xs ++ [x1]).length c') :: (d1, q') :: E) ds w') :
    WL P ops Q (⟨some d1, .buildSlice T 1 #[(0, z)], ty1, pos1, af1, none⟩ :: ⟨some d, .call { callee := .builtin .append, args := #[x, .tmp d1], argTypes := #[T, T] }, ty, pos, af, none⟩ :: rest) N E ds w :=
  l_app H hO hz rfl hl hsm h1 hd1 hx hb hd fun A' c' w' q' _ H' => by
    have e1 : (xs ++ [x1]).length = xs.length + 1 := by simp
    have := h A' c' w' q' (by rw [e1, ← flat_snoc]; exact H')
    rwa [e1] at this
/-- The row's cells represent a list. -/
theorem l_appc {α : Type} {dd : Rp α} {j e sz by_ n : Nat} [hT : SlTy P T e sz by_] {xs : List α} {cs news : List Value} (x1 : α) (H : Hp w0 M w L O F) (hO : O[j]? = some ⟨v, e, sz, n, cs⟩) (hn : n = xs.length) (hm : Chunks dd sz xs cs ∈ F) (hz : Ev N E z q) (hq : q.cells.toList = news) (hl : news.length = sz)
    (hx1 : Stab w (Mu M L O) (fun w' => dd w' x1 news)) (hsm : Nat.ble sz 16777216 = true) (h1 : news.all (·.oneCell') = true) (hd1 : Nat.blt d1 N = true) (hx : ∀ q', Ev N ((d1, q') :: E) x v) (hb : (n + 1) * by_ ≤ 140737488355328) (hd : Nat.blt d N = true)
    (h : ∀ A' c' w' q', Hp w0 M w' L (O.set j ⟨.slice A' (xs ++ [x1]).length c', e, sz, (xs ++ [x1]).length, cs ++ news⟩) (Chunks dd sz (xs ++ [x1]) (cs ++ news) :: F) → WL P ops Q rest N ((d, .slice A' (xs ++ [x1]).length c') :: (d1, q') :: E) ds w') :
    WL P ops Q (⟨some d1, .buildSlice T 1 #[(0, z)], ty1, pos1, af1, none⟩ :: ⟨some d, .call { callee := .builtin .append, args := #[x, .tmp d1], argTypes := #[T, T] }, ty, pos, af, none⟩ :: rest) N E ds w := by
  subst hn
  refine l_app (H.add ((H.fact _ hm).snoc hx1 hl)) hO hz hq hl hsm h1 hd1 hx hb hd fun A' c' w' q' _ H' => ?_
  have e1 : (xs ++ [x1]).length = xs.length + 1 := by simp
  have := h A' c' w' q' (by rw [e1]; exact H')
  rwa [e1] at this
/-- The same with one cell: a slice. -/
theorem l_apps {α : Type} {dd : Rp α} {j e by_ n m1 c1 : Nat} {A1 : Option Addr} [hT : SlTy P T e 1 by_] {xs : List α} {cs : List Value} (x1 : α) (H : Hp w0 M w L O F) (hO : O[j]? = some ⟨v, e, 1, n, cs⟩) (hn : n = xs.length) (hm : Chunks dd 1 xs cs ∈ F) (hz : Ev N E z (.slice A1 m1 c1))
    (hx1 : Stab w (Mu M L O) (fun w' => dd w' x1 [.slice A1 m1 c1])) (hd1 : Nat.blt d1 N = true) (hx : ∀ q', Ev N ((d1, q') :: E) x v) (hb : (n + 1) * by_ ≤ 140737488355328) (hd : Nat.blt d N = true)
    (h : ∀ A' c' w' q', Hp w0 M w' L (O.set j ⟨.slice A' (xs ++ [x1]).length c', e, 1, (xs ++ [x1]).length, cs ++ [.slice A1 m1 c1]⟩) (Chunks dd 1 (xs ++ [x1]) (cs ++ [.slice A1 m1 c1]) :: F) → WL P ops Q rest N ((d, .slice A' (xs ++ [x1]).length c') :: (d1, q') :: E) ds w') :
    WL P ops Q (⟨some d1, .buildSlice T 1 #[(0, z)], ty1, pos1, af1, none⟩ :: ⟨some d, .call { callee := .builtin .append, args := #[x, .tmp d1], argTypes := #[T, T] }, ty, pos, af, none⟩ :: rest) N E ds w :=
  l_appc x1 H hO hn hm hz rfl rfl hx1 rfl rfl hd1 hx hb hd h
/-- A row of whole numbers. -/
theorem l_appi {k : IntKind} {j e by_ n : Nat} [hT : SlTy P T e 1 by_] {xs : List Int} (x1 : Int) (H : Hp w0 M w L O F) (hO : O[j]? = some ⟨v, e, 1, n, xs.map (Value.int k)⟩) (hn : n = xs.length) (hz : Ev N E z (.int k x1))
    (hd1 : Nat.blt d1 N = true) (hx : ∀ q', Ev N ((d1, q') :: E) x v) (hb : (n + 1) * by_ ≤ 140737488355328) (hd : Nat.blt d N = true)
    (h : ∀ A' c' w' q', Hp w0 M w' L (O.set j ⟨.slice A' (xs ++ [x1]).length c', e, 1, (xs ++ [x1]).length, (xs ++ [x1]).map (Value.int k)⟩) F → WL P ops Q rest N ((d, .slice A' (xs ++ [x1]).length c') :: (d1, q') :: E) ds w') :
    WL P ops Q (⟨some d1, .buildSlice T 1 #[(0, z)], ty1, pos1, af1, none⟩ :: ⟨some d, .call { callee := .builtin .append, args := #[x, .tmp d1], argTypes := #[T, T] }, ty, pos, af, none⟩ :: rest) N E ds w := by
  subst hn
  refine l_app H hO hz rfl rfl rfl rfl hd1 hx hb hd fun A' c' w' q' _ H' => ?_
  have e1 : (xs ++ [x1]).length = xs.length + 1 := by simp
  have := h A' c' w' q' (by rw [e1, List.map_append]; exact H')
  rwa [e1] at this

/-! ### Elements of rows that are read, laid open -/
/-- Element i's cells. -/
def Cel (A : Option Addr) (i sz : Nat) (cs : List Value) (w : World) : Prop := ∃ a, A = some a ∧ ∀ j u, cs[j]? = some u → w.cell? (a.add (i * sz + j)) = some u
theorem Hp.openE {α : Type} {dd : Rp α} {sz i : Nat} {A : Option Addr} {xs : List α} {x1 : α} (H : Hp w0 M w L O F) (hm : Row dd sz A xs ∈ F) (hsz : 0 < sz) (hx : xs[i]? = some x1) :
    ∃ cs, cs.length = sz ∧ Stab w (Mu M L O) (fun w' => dd w' x1 cs) ∧ Hp w0 M w L O (Cel A i sz cs :: F) := by
  obtain ⟨a, cs, ha, hl, hd, hc⟩ := (H.fact _ hm).elem hsz hx
  exact ⟨cs, hl, hd, H.add fun w' hs hw => ⟨a, ha, fun j u hu => hc j u hu w' hs hw⟩⟩
theorem Stab.sl {α : Type} {dd : Rp α} {sz : Nat} {xs : List α} {cs : List Value} (h : Stab w M (fun w' => kSl sz dd w' xs cs)) :
    ∃ A c, cs = [.slice A xs.length c] ∧ xs.length ≤ c ∧ c ≤ 9223372036854775807 ∧ Stab w M (Row dd sz A xs) := by
  obtain ⟨A, c, h1, h2, h3, _⟩ := h.now
  refine ⟨A, c, h1, h2, h3, fun w' hs hw => ?_⟩
  obtain ⟨A2, c2, q1, _, _, q4⟩ := h w' hs hw
  rw [h1] at q1
  injection q1 with q1 _
  injection q1 with q1 _ _
  subst q1
  exact q4
/-- An element that is a slice. -/
theorem Hp.openS {α : Type} {dd : Rp α} {sz i : Nat} {A : Option Addr} {xs : List (List α)} (H : Hp w0 M w L O F) (hm : Row (kSl sz dd) 1 A xs ∈ F) (hi : i < xs.length) :
    ∃ A' c', (xs[i]'hi).length ≤ c' ∧ c' ≤ 9223372036854775807 ∧ Hp w0 M w L O (Row dd sz A' (xs[i]'hi) :: Cel A i 1 [.slice A' (xs[i]'hi).length c'] :: F) := by
  obtain ⟨cs, _, hd, H1⟩ := H.openE hm Nat.zero_lt_one (List.getElem?_eq_getElem hi)
  obtain ⟨A', c', rfl, h2, h3, h4⟩ := hd.sl
  exact ⟨A', c', h2, h3, H1.add h4⟩
theorem rd_load_cel [hT : ScT P T] {A : Option Addr} {i sz j : Nat} {cs : List Value} (H : Hp w0 M w L O F) (hp : Ev N E x (ep A i sz j)) (hm : Cel A i sz cs ∈ F) (hv : cs[j]? = some v) : Rd P ⟨dst, .load T x, ty, pos, af, g⟩ N E w v := by
  obtain ⟨a, rfl, h⟩ := (H.fact _ hm).now
  exact rd_load_sc hp (h j _ hv)
theorem rd_load_cela {sz : Nat} [hT : AgT P T sz] {A : Option Addr} {i : Nat} {cs : List Value} (H : Hp w0 M w L O F) (hp : Ev N E x (ep A i sz 0)) (hm : Cel A i sz cs ∈ F) (hl : cs.length = sz) : Rd P ⟨dst, .load T x, ty, pos, af, g⟩ N E w (.agg cs.toArray) := by
  obtain ⟨a, rfl, h⟩ := (H.fact _ hm).now
  refine rd_load_ag hp hl fun j u hu => ?_
  rw [add_add, Nat.add_zero]
  exact h j u hu
theorem rd_field_cel {off : Nat} {f : Nat} [hT : FdT P T f off] {A : Option Addr} {i sz : Nat} {cs : List Value} (H : Hp w0 M w L O F) (hp : Ev N E x (ep A i sz 0)) (hm : Cel A i sz cs ∈ F) : Rd P ⟨dst, .fieldAddr T x f, ty, pos, af, g⟩ N E w (ep A i sz off) := by
  obtain ⟨a, rfl, h⟩ := (H.fact _ hm).now
  exact rd_field_ep (by simp) hp
theorem rd_field_row {α : Type} {dd : Rp α} {off : Nat} {f : Nat} [hT : FdT P T f off] {A : Option Addr} {i sz : Nat} {xs : List α} (H : Hp w0 M w L O F) (hp : Ev N E x (ep A i sz 0)) (hm : Row dd sz A xs ∈ F) (hi : i < xs.length) : Rd P ⟨dst, .fieldAddr T x f, ty, pos, af, g⟩ N E w (ep A i sz off) := by
  obtain ⟨a, rfl, _⟩ := ((H.fact _ hm).now).at_ (by intro e; rw [e] at hi; simp at hi)
  exact rd_field_ep (by simp) hp
theorem rd_auto6 {o : Oper} (hr : Rd P o N E w v := by
      first
      | (apply g_load; first | exact rd_load_cel (by assumption) ⟨rfl, rfl⟩ mem_auto rfl | exact rd_load_cela (by assumption) ⟨rfl, rfl⟩ mem_auto rfl)
      | (apply g_fieldAddr; exact rd_field_row (by assumption) ⟨rfl, rfl⟩ mem_auto (by omega))
      | exact rd_auto5
      | (apply g_fieldAddr; exact rd_field_cel (by assumption) ⟨rfl, rfl⟩ mem_auto)) : Rd P o N E w v := hr
/-! ### Guards that are denied -/
theorem l_nsplit {p : Prop} [Decidable p] {i d' : Nat} {b : Bool} (hg : ((ops[i]?).bind (·.dst)) = some d') (hv : get E d' = .bool (!decide p))
    (ht : ¬ p → WL P ops Q (⟨dst, o, ty, pos, af, some (i, b)⟩ :: rest) N ((d', .bool true) :: E) ds w)
    (hf : p → WL P ops Q (⟨dst, o, ty, pos, af, some (i, b)⟩ :: rest) N ((d', .bool false) :: E) ds w) :
    WL P ops Q (⟨dst, o, ty, pos, af, some (i, b)⟩ :: rest) N E ds w := by
  by_cases h : p
  · exact l_dup (by rw [hv]; simp [h]) (hf h)
  · exact l_dup (by rw [hv]; simp [h]) (ht h)
theorem q_nsplit {Q1 : Act → Prop} {p : Prop} [Decidable p] {i d' : Nat} {b : Bool} (hg : ((ops[i]?).bind (·.dst)) = some d') (hv : get E d' = .bool (!decide p))
    (ht : ¬ p → WQ P ops Q1 (⟨dst, o, ty, pos, af, some (i, b)⟩ :: rest) N ((d', .bool true) :: E) ds w)
    (hf : p → WQ P ops Q1 (⟨dst, o, ty, pos, af, some (i, b)⟩ :: rest) N ((d', .bool false) :: E) ds w) :
    WQ P ops Q1 (⟨dst, o, ty, pos, af, some (i, b)⟩ :: rest) N E ds w := by
  by_cases h : p
  · exact q_dup (by rw [hv]; simp [h]) (hf h)
  · exact q_dup (by rw [hv]; simp [h]) (ht h)
end
end Go.Proofs.YtiolpldihoghiaaDoor

namespace Go.Proofs.YtiolpldihoghiaaDoor
open Go.RowKit
set_option linter.unusedVariables false
set_option linter.unusedSimpArgs false

section
variable {P : Program} {N : Nat} {E : List (Nat × Value)} {ds : List Deferred} {ops : Array Oper} {rest : List Oper} {Q Q' : Exit → Act → World → Prop}
variable {d d1 : Nat} {o : Op} {dst : Option Tmp} {ty ty1 : TypeId} {pos pos1 : String} {af af1 : Array Edge} {g : Option (Nat × Bool)} {w w' ws : World} {v v' q : Value} {x y z : Operand} {T T' u : TypeId} {a b : Int}
variable {w0 : World} {M : Nat → Prop} {L : List Loc} {O : List Own} {F : List (World → Prop)} {K : List (Nat × Value) → World → Prop}

theorem Hp.sealR {α : Type} {dd : Rp α} {e sz n c : Nat} {A : Option Addr} {xs : List α} {cs : List Value} (H : Hp w0 M w L (⟨.slice A n c, e, sz, n, cs⟩ :: O) F) (hc : Chunks dd sz xs cs ∈ F) (hM : ∀ b, M b → b < w0.heap.size) (hsz : 0 < sz) (hn : n = xs.length) (hbd : xs.length ≤ 140737488355328) :
    xs.length ≤ c ∧ c ≤ 9223372036854775807 ∧ Hp w0 M w L O (Row dd sz A xs :: F) := by
  obtain ⟨A', c', h1, h2, h3, h4⟩ := (H.add (H.fact _ hc)).sealA hM hsz hn hbd
  injection h1 with h1 _ h5
  subst h1; subst h5
  exact ⟨h2, h3, h4⟩
/-- The same for a row whose cells are f's. -/
theorem Hp.sealf {α : Type} {dd : Rp α} {f : α → List Value} {e sz n c : Nat} {A : Option Addr} {xs : List α} (H : Hp w0 M w L (⟨.slice A n c, e, sz, n, xs.flatMap f⟩ :: O) F) (hf : ∀ x, (f x).length = sz) (hx : ∀ w', ∀ x ∈ xs, dd w' x (f x)) (hM : ∀ b, M b → b < w0.heap.size) (hsz : 0 < sz) (hn : n = xs.length) (hbd : xs.length ≤ 140737488355328) :
    xs.length ≤ c ∧ c ≤ 9223372036854775807 ∧ Hp w0 M w L O (Row dd sz A xs :: F) := by
  obtain ⟨A', c', h1, h2, h3, h4⟩ := (H.add (f := Chunks dd sz xs (xs.flatMap f)) (fun w' _ _ => flat_chunks hf (hx w'))).sealA hM hsz hn hbd
  injection h1 with h1 _ h5
  subst h1; subst h5
  exact ⟨h2, h3, h4⟩
theorem Chunks.set1 {α : Type} {dd : Rp α} {xs : List α} {cs : List Value} {i : Nat} {x1 : α} (h : Chunks dd 1 xs cs w) (hx : dd w x1 [q]) : Chunks dd 1 (xs.set i x1) (cs.set i q) w := by
  refine ⟨by rw [List.length_set, List.length_set, h.len], fun j x hj => ?_⟩
  rw [List.getElem?_set] at hj
  have key : ∀ (l : List Value) (j : Nat) (u : Value), l[j]? = some u → (l.drop (j * 1)).take 1 = [u] := fun l j u hu => by
    rw [Nat.mul_one, List.take_one, List.head?_drop, hu]; rfl
  split at hj
  · rename_i e; subst e
    split at hj
    · rename_i hl
      simp only [Option.some.injEq] at hj; subst hj
      rw [key _ i q (by rw [List.getElem?_set_self (by rw [h.len]; omega)])]; exact hx
    · cases hj
  · rename_i e
    have h1 := h.at_ j x hj
    have hl : j < cs.length := by rw [h.len, Nat.mul_one]; exact (List.getElem?_eq_some_iff.1 hj).1
    rw [key _ j cs[j] (List.getElem?_eq_getElem hl)] at h1
    rw [key _ j cs[j] (by rw [List.getElem?_set_ne e, List.getElem?_eq_getElem hl])]; exact h1
/-- A slice is stored into an element of a row of slices. -/
theorem t_store_sl {α : Type} {dd : Rp α} {j e n m n1 c1 : Nat} {A1 : Option Addr} {xs : List α} {cs : List Value} [hT : ScT P T] (x1 : α) (H : Hp w0 M w L O F) (hO : O[j]? = some ⟨v, e, 1, n, cs⟩) (hc : Chunks dd 1 xs cs ∈ F) (hp : Ev N E x (op v m 1 0)) (hm : m < n) (hy : Ev N E y (.slice A1 n1 c1))
    (hx1 : Stab w (Mu M L O) (fun w' => dd w' x1 [.slice A1 n1 c1]))
    (h : ∀ w', Hp w0 M w' L (O.set j ⟨v, e, 1, n, cs.set m (.slice A1 n1 c1)⟩) (Chunks dd 1 (xs.set m x1) (cs.set m (.slice A1 n1 c1)) :: F) → K E w') : St P ops Q ⟨none, .store T x y, ty, pos, af, none⟩ N E ds w K :=
  s_store_op (H.add (f := Chunks dd 1 (xs.set m x1) (cs.set m (.slice A1 n1 c1))) (fun w' hs hw => ((H.fact _ hc) w' hs hw).set1 (hx1 w' hs hw))) hp hO hm (by decide) hy rfl fun w' H' => h w' (by simpa only [Nat.mul_one, Nat.add_zero] using H')
end
end Go.Proofs.YtiolpldihoghiaaDoor

namespace Go.Proofs.YtiolpldihoghiaaDoor
open Go.RowKit
set_option linter.unusedVariables false
set_option linter.unusedSimpArgs false

abbrev Fw (ro : Option Nat) : Fence := { Fence.wide with round := ro }
def ndOp (o : Oper) : Bool := match o.op with
  | .defer _ => false
  | _ => true
class NO (Q : Exit → Act → World → Prop) : Prop where
  no : ¬ LetsOut Q

section
variable {P : Program} {N : Nat} {E : List (Nat × Value)} {ds : List Deferred} {ops : Array Oper} {rest : List Oper} {Q Q' : Exit → Act → World → Prop} {ro : Option Nat} {n : Nat}
variable {d d1 : Nat} {o : Op} {dst : Option Tmp} {ty ty1 : TypeId} {pos pos1 : String} {af af1 : Array Edge} {g : Option (Nat × Bool)} {w w' ws : World} {v v' q : Value} {x y z : Operand} {T T' u : TypeId} {a b : Int}
variable {w0 : World} {M : Nat → Prop} {L : List Loc} {O : List Own} {F : List (World → Prop)} {K : List (Nat × Value) → World → Prop}

theorem calls_in {f : FuncId} {args : Array Value} {R : Ending → World → Prop} (h : Calls P f args w R) : CallsIn (Fw ro) n P f args w R := (callsIn_wide (n := n)).2 h
theorem rows_in {row : String} {args : Array Value} {R : Value → World → Prop} (h : Rows P row args w R) : RowsIn (Fw ro) n P row args w R :=
  fun c cs _ => let ⟨v, w', r, s⟩ := h c cs; ⟨v, w', r, stepsIn_wide.2 s⟩
theorem oper_in {oo : Oper} {a : Act} {K : Act → World → Prop} (hnd : ndOp oo = true) (h : oo.wp P a w K Q) : oo.wpIn (Fw ro) n P a w K Q := by
  refine ⟨fun _ _ => trivial, ?_⟩
  rw [Oper.semAt_eq _ _ _ (fun c e => by simp [ndOp, e] at hnd)]
  unfold Oper.wp at h
  generalize (execOp a.eval oo).run P w = r at *
  cases r with
  | ok x w' =>
    cases x <;> simp only [Oper.upon, Oper.uponIn] at h ⊢
    case value => exact h
    case skip => exact h
    case defer => exact h
    case enter => exact ⟨fun h => by simp [Fence.wide] at h, calls_in h⟩
    case row => exact ⟨fun h => by simp [Fence.wide] at h, rows_in h⟩
  | halt x w' => cases x <;> simp only [Oper.upon, Oper.uponIn] at h ⊢ <;> exact h
theorem list_in (hQ : ¬ LetsOut Q) : ∀ (l : List Oper) (a : Act) (w : World), l.all ndOp = true → wpList P ops Q l a w → wpListIn (Fw ro) n P ops Q l a w
  | [], _, _, _, h => h
  | oo :: rest, a, w, hnd, h => by
    simp only [List.all_cons, Bool.and_eq_true] at hnd
    unfold wpList at h
    unfold wpListIn
    split
    · rename_i hw
      rw [if_pos hw] at h
      rcases h with h | ⟨_, h⟩
      · exact Oper.wpIn_mono (fun a' w' h' => list_in hQ rest a' w' hnd.2 h') (oper_in hnd.1 h)
      · exact absurd h hQ
    · rename_i hw
      rw [if_neg hw] at h
      exact ⟨fun _ _ => trivial, list_in hQ rest _ _ hnd.2 h⟩
theorem any_in {md : Region.Mode} (hQ : ¬ LetsOut Q) (hnd : ∀ (i : Nat) (oo : Oper), ops[i]? = some oo → ndOp oo = true) : ∀ (f : Nat) (li : Array Bool) (a : Act) (w : World), wpAny P md ops Q f li a w → wpAnyIn (Fw ro) n P md ops Q f li a w
  | 0, _, _, _, h => h
  | f + 1, li, a, w, h => by
    refine ⟨h.1, fun i hi => ?_⟩
    have h2 := h.2 i hi
    unfold wpOp at h2
    unfold wpOpIn
    split
    · rename_i ho; simp only [ho] at h2; exact any_in hQ hnd f _ _ _ h2
    · rename_i oo ho
      simp only [ho] at h2
      split
      · rename_i hw
        rw [if_pos hw] at h2
        rcases h2 with h2 | ⟨_, h2⟩
        · exact Oper.wpIn_mono (fun a' w' h' => any_in hQ hnd f _ a' w' h') (oper_in (hnd i oo ho) h2)
        · exact absurd h2 hQ
      · rename_i hw
        rw [if_neg hw] at h2
        exact ⟨fun _ _ => trivial, any_in hQ hnd f _ _ _ h2⟩

/-! ### Code inside the fence, sealed -/
structure WI (ro : Option Nat) (n : Nat) (P : Program) (c : Code) (Q : Exit → Act → World → Prop) (N : Nat) (E : List (Nat × Value)) (ds : List Deferred) (w : World) : Prop where
  out : c.wpIn (Fw ro) n P Q (fr N E ds) w
structure Ti (ro : Option Nat) (n : Nat) (P : Program) (c : Code) (Q : Exit → Act → World → Prop) (e : Exit) (a : Act) (w : World) : Prop where
  out : Exit.then (c.wpIn (Fw ro) n P Q) Q e a w
structure WY (ro : Option Nat) (n : Nat) (P : Program) (ops : Array Oper) (Q : Exit → Act → World → Prop) (l : List Oper) (N : Nat) (E : List (Nat × Value)) (ds : List Deferred) (w : World) : Prop where
  out : wpListIn (Fw ro) n P ops Q l (fr N E ds) w
structure Sp (ro : Option Nat) (n : Nat) (P : Program) (ops : Array Oper) (Q : Exit → Act → World → Prop) (l : List Oper) (e : Exit) (a : Act) (w : World) : Prop where
  out : match e with
    | .normal => wpListIn (Fw ro) n P ops Q l a w
    | e => Q e a w
instance {c : Code} [h : NO Q] : NO (Ti ro n P c Q) := ⟨fun ⟨a, w, hh⟩ => h.no ⟨a, w, hh.out⟩⟩
instance {l : List Oper} [h : NO Q] : NO (Sp ro n P ops Q l) := ⟨fun ⟨a, w, hh⟩ => h.no ⟨a, w, hh.out⟩⟩
instance {i : Nat} [h : NO Q] : NO (Bk i Q) := ⟨fun ⟨a, w, hh⟩ => h.no ⟨a, w, hh.out⟩⟩
instance {ks keep : List Nat} {kv : List Value} {J : Nat → List Value → World → Prop} {m : Nat} [h : NO Q] : NO (Lk ks keep kv J m N ds Q) := ⟨fun ⟨a, w, hh⟩ => h.no ⟨a, w, hh.out⟩⟩

theorem i_seq {c1 c2 : Code} (h : WI ro n P c1 (Ti ro n P c2 Q) N E ds w) : WI ro n P (.seq c1 c2) Q N E ds w := ⟨wpIn_seq (wpIn_mono h.out (fun _ _ _ h => h.out))⟩
theorem i_region [hQ : NO Q] {id : Nat} {l : List Oper} (hnd : l.all ndOp = true) (h : WL P l.toArray Q l N E ds w) : WI ro n P (Code.region id l.toArray false) Q N E ds w := ⟨wpIn_region_lit (list_in hQ.no l _ _ hnd h.out)⟩
theorem y_list [hQ : NO Q] {l : List Oper} (hnd : l.all ndOp = true) (h : WL P ops Q l N E ds w) : WY ro n P ops Q l N E ds w := ⟨list_in hQ.no l _ _ hnd h.out⟩
theorem sp_n {l : List Oper} (h : WY ro n P ops Q l N E ds w) : Sp ro n P ops Q l .normal (fr N E ds) w := ⟨h.out⟩
theorem list_split : ∀ (l1 l2 : List Oper) (a : Act) (w : World), wpListIn (Fw ro) n P ops (Sp ro n P ops Q l2) l1 a w → wpListIn (Fw ro) n P ops Q (l1 ++ l2) a w
  | [], l2, a, w, h => h.out
  | oo :: l1, l2, a, w, h => by
    rw [List.cons_append]
    unfold wpListIn at h ⊢
    split
    · rename_i hw
      rw [if_pos hw] at h
      have h' := Oper.wpIn_mono (K' := wpListIn (Fw ro) n P ops Q (l1 ++ l2)) (fun a' w' h' => list_split l1 l2 a' w' h') h
      refine ⟨h'.1, ?_⟩
      have h2 := h'.2
      generalize (oo.semAt (Fw ro).round a.eval).run P w = r at *
      cases r with
      | ok x w' =>
        cases x <;> simp only [Oper.uponIn] at h2 ⊢
        case value => exact h2
        case skip => exact h2
        case defer => exact h2
        case enter =>
          refine ⟨h2.1, CallsIn.mono h2.2 fun e w'' he => ?_⟩
          cases e with
          | returned u => exact he
          | panicked c => exact he.out
          | outgrown => exact he.imp fun a h => h.imp fun w h => h.out
        case row => exact h2
        case round =>
          refine ⟨h2.1, RoundIn.mono h2.2 fun e w'' he => ?_⟩
          cases e with
          | returned u => exact he
          | panicked c => exact he.out
          | outgrown => exact he.imp fun a h => h.imp fun w h => h.out
      | halt x w' => cases x <;> simp only [Oper.uponIn] at h2 ⊢ <;> exact h2.out
    · rename_i hw
      rw [if_neg hw] at h
      exact ⟨h.1, list_split l1 l2 _ _ h.2⟩
/-- The region's first k operations, and the others behind them. -/
theorem i_split [hQ : NO Q] (k : Nat) {id : Nat} {l : List Oper} (hnd : (l.take k).all ndOp = true) (h : WL P l.toArray (Sp ro n P l.toArray Q (l.drop k)) (l.take k) N E ds w) : WI ro n P (Code.region id l.toArray false) Q N E ds w := by
  have h1 := list_split (ro := ro) (n := n) (l.take k) (l.drop k) _ _ (list_in (NO.no (Q := Sp ro n P l.toArray Q (l.drop k))) _ _ _ hnd h.out)
  rw [List.take_append_drop] at h1
  exact ⟨wpIn_region_lit h1⟩
/-- The call of the loop's body. -/
theorem y_yield {l : Nat} {fv : Operand} {xs : List Operand} {vs : List Value} {tys : Array TypeId} {R : Ending → World → Prop} (hv : Ev N E fv (.func (.yield l) #[] #[])) (ha : Evs N E xs vs) (hy : YieldAt (Fw ro) (n - 1) P l vs.toArray w R) (hd : Nat.blt d N = true)
    (h : ∀ e w', R e w' → ∃ v, e = .returned v ∧ WY ro n P ops Q rest N ((d, v) :: E) ds w') :
    WY ro n P ops Q (⟨some d, .call { callee := .value fv, args := xs.toArray, argTypes := tys }, ty, pos, af, none⟩ :: rest) N E ds w := by
  obtain ⟨fn, tmps, assign, body, hr, hR⟩ := hy
  refine ⟨?_⟩
  have hw : Region.wanted (⟨some d, .call { callee := .value fv, args := xs.toArray, argTypes := tys }, ty, pos, af, none⟩ : Oper) (yielded ops (fr N E ds).tmps) = true := rfl
  unfold wpListIn
  rw [if_pos hw]
  refine ⟨fun _ _ => trivial, ?_⟩
  rw [Oper.semAt_eq _ _ _ (fun c e => by cases e)]
  have e2 : (execOp (fr N E ds).eval ⟨some d, .call { callee := .value fv, args := xs.toArray, argTypes := tys }, ty, pos, af, none⟩).run P w = .ok (.round l fn tmps assign body) w := by
    have hm := evs_map (ds := ds) ha
    simp [execOp, resolve, invoke, Deferred.ofValue, fr_eval hv, hm, hr]
  rw [e2]
  refine ⟨fun h => by simp [Fence.wide] at h, RoundIn.mono hR fun e w' he => ?_⟩
  obtain ⟨v, rfl, h3⟩ := h e w' he
  simp only [fr_put v hd]
  exact h3.out

theorem i_skip (h : Q .normal (fr N E ds) w) : WI ro n P .skip Q N E ds w := ⟨wpIn_skip h⟩
theorem i_ret (h : Q .ret (fr N E ds) w) : WI ro n P .ret Q N E ds w := ⟨wpIn_ret h⟩
theorem i_exit {i : Nat} (h : Q (.exit i) (fr N E ds) w) : WI ro n P (.exit i) Q N E ds w := ⟨wpIn_exit h⟩
theorem i_block {i : Nat} {c : Code} (h : WI ro n P c (Bk i Q) N E ds w) : WI ro n P (.block i c) Q N E ds w := ⟨wpIn_block (wpIn_mono h.out (fun _ _ _ h => h.out))⟩
theorem i_draw [hm : Mixed P] [hQ : NO Q] (H : Hp w0 M w L O F) {id : Nat} {l : List Oper} (hB : Region.lexB .any l.toArray = true) (hnd : l.all ndOp = true)
    (h : WQ P l.toArray (After w0 M L O F Q) l N E ds w) : WI ro n P (Code.region id l.toArray true) Q N E ds w := by
  refine ⟨wpIn_region_any hm.yes (any_in hQ.no (fun i oo hi => List.all_eq_true.1 hnd oo (List.mem_of_getElem? (by simpa using hi))) _ _ _ _ ?_)⟩
  have h0 := h.out
  have h2 : wpQuiet P l.toArray (fun w' => Below w.heap.size w w') (fun a' => ∀ w', Below w.heap.size w w' → Q .normal a' w') l (fr N E ds) := by
    revert h0; generalize l.toArray = ops2; generalize fr N E ds = a; intro h
    have mono2 : ∀ (l : List Oper) (a : Act), wpQuiet P ops2 (fun w' => Below w.heap.size w w') (After w0 M L O F Q) l a →
        wpQuiet P ops2 (fun w' => Below w.heap.size w w') (fun a' => ∀ w', Below w.heap.size w w' → Q .normal a' w') l a := by
      intro l
      induction l with
      | nil => intro a h w' hw'; exact h.out w' (H.ext hw')
      | cons o l ih =>
        intro a h
        unfold wpQuiet at h ⊢
        split
        · rename_i hw; rw [if_pos hw] at h; exact Oper.quiet_mono (fun a' => ih a') h
        · rename_i hw; rw [if_neg hw] at h; exact ih _ h
    exact mono2 l a h
  simp only [Region.lexB, Bool.and_eq_true] at hB
  refine wpAny_of_quiet (C := fun w' => Below w.heap.size w w') (Q := fun a' => ∀ w', Below w.heap.size w w' → Q .normal a' w') (fun _ w' hw' h => h w' hw') _ _ _ _ ⟨rfl, rfl, rfl, Nat.le_refl _, fun _ _ => rfl⟩ ?_
  have := wpAnyQ_lex (C := fun w' => Below w.heap.size w w') (md := .any) hB.1 l 0 (Array.replicate l.toArray.size false) (fr N E ds) (by simp) (by simpa using hB.2) h2
  simpa using this
theorem i_cond {p : Prop} [Decidable p] {A B : Code} (hx : Ev N E x (.bool (decide p))) (ht : p → WI ro n P A Q N E ds w) (hf : ¬ p → WI ro n P B Q N E ds w) : WI ro n P (.cond x A B) Q N E ds w :=
  ⟨wpIn_cond_split (fr_eval hx) (fun h => (ht (of_decide_eq_true h)).out) (fun h => (hf (of_decide_eq_false h)).out)⟩
theorem i_ncond {p : Prop} [Decidable p] {A B : Code} (hx : Ev N E x (.bool (!decide p))) (ht : ¬ p → WI ro n P A Q N E ds w) (hf : p → WI ro n P B Q N E ds w) : WI ro n P (.cond x A B) Q N E ds w :=
  ⟨wpIn_cond_split (fr_eval hx) (fun h => (ht (by simpa using h)).out) (fun h => (hf (by simpa using h)).out)⟩
theorem i_true {A B : Code} (hx : Ev N E x (.bool true)) (ht : WI ro n P A Q N E ds w) : WI ro n P (.cond x A B) Q N E ds w := ⟨wpIn_cond_true (fr_eval hx) ht.out⟩
theorem i_false {A B : Code} (hx : Ev N E x (.bool false)) (ht : WI ro n P B Q N E ds w) : WI ro n P (.cond x A B) Q N E ds w := ⟨wpIn_cond_false (fr_eval hx) ht.out⟩
theorem ti_n {c : Code} (h : WI ro n P c Q N E ds w) : Ti ro n P c Q .normal (fr N E ds) w := ⟨h.out⟩
theorem ti_x {c : Code} {a : Act} {i : Nat} (h : Q (.exit i) a w) : Ti ro n P c Q (.exit i) a w := ⟨h⟩
theorem ti_r {c : Code} {a : Act} (h : Q .ret a w) : Ti ro n P c Q .ret a w := ⟨h⟩
theorem i_loopk {c : Code} (ks keep : List Nat) (J : Nat → List Value → World → Prop) (m : Nat) (kv : List Value) (hk : keep.map (get E) = kv) (h0 : J m (ks.map (get E)) w)
    (round : ∀ m vs E0 w, J m vs w → WI ro n P c (Lk ks keep kv J m N ds Q) N (ks.zip vs ++ (keep.zip kv ++ E0)) ds w) : WI ro n P (.loop c) Q N E ds w := by
  refine ⟨wpIn_loop (fun a w => ∃ m, ∃ E, a = fr N E ds ∧ J m (ks.map (get E)) w ∧ keep.map (get E) = kv) (fun a w => leastOf fun m => ∃ E, a = fr N E ds ∧ J m (ks.map (get E)) w ∧ keep.map (get E) = kv) ⟨m, E, rfl, h0, hk⟩ ?_⟩
  intro a w hI
  obtain ⟨E1, ha, hJ, hk1⟩ := (leastOf_spec hI).1
  generalize hm : leastOf (fun m => ∃ E, a = fr N E ds ∧ J m (ks.map (get E)) w ∧ keep.map (get E) = kv) = m1 at *
  subst ha
  rw [fr_dups keep E1, fr_dups ks _, hk1]
  have e : ks.map (get (keep.zip kv ++ E1)) = ks.map (get E1) := by
    apply List.map_congr_left
    intro k _
    subst hk1
    clear hk hJ round hI hm
    induction keep with
    | nil => rfl
    | cons j ks ih =>
      by_cases e : k = j
      · subst e; simp [get]
      · simp only [List.map_cons, List.zip_cons_cons, List.cons_append]; rw [get_cons_ne _ e]; exact ih
  rw [e]
  refine wpIn_mono (round m1 _ E1 w hJ).out ?_
  intro e a' w' hq
  have hq := hq.out
  cases e with
  | normal =>
    obtain ⟨n', E', hn, rfl, hJ', hk'⟩ := hq
    have hI' : ∃ m, ∃ E, fr N E' ds = fr N E ds ∧ J m (ks.map (get E)) w' ∧ keep.map (get E) = kv := ⟨n', E', rfl, hJ', hk'⟩
    refine ⟨hI', ?_⟩
    have h1 := (leastOf_spec hI').2 n' ⟨E', rfl, hJ', hk'⟩
    omega
  | exit _ => exact hq
  | goto _ => exact hq
  | ret => exact hq
  | panic _ => exact hq
  | outgrown => exact hq
end
end Go.Proofs.YtiolpldihoghiaaDoor
