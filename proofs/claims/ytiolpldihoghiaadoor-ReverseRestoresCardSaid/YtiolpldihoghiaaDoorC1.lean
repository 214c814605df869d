/- The engine, part 1: frames as lists of slots, operations that only read. Over any program. The engine, part 2: what is known of memory. Over any program. The engine, part 3: operations one by one; code; calls. Over any program. The engine, part 4: regions, code, calls. Over any program. The engine, part 5: calls and writes as steps. Over any program. The engine, part 6: how a program's types are told; a list's elements. Over any program. The engine, part 7: one step for all reads. Over any program. The engine, part 8: loops; rows of one's own; results. Over any program. The engine, part 9: results that lie in variables; regions that draw their order and act. Over any program. -/
import Derived.WalkKit
import Derived.Deep.Quiet
import Derived.Deep.Draws
import Derived.KernelRfl
import Derived.Maps.AppendAt
import Derived.OwnWalk
import Derived.Laws.OwnMore
import Derived.Below
import Derived.IntWalk
import Derived.Deep.LoopGhost
import Derived.Laws.MakeOwn
import Derived.OrdersHeld
import Derived.StillTail
namespace Go.Proofs.YtiolpldihoghiaaDoor
open Go.RowKit
set_option linter.unusedVariables false
set_option linter.unusedSimpArgs false

/-! ### Frames -/
def get : List (Nat × Value) → Nat → Value
  | [], _ => undef
  | (k, v) :: r, n => bif Nat.beq n k then v else get r n

def fr (N : Nat) (E : List (Nat × Value)) (ds : List Deferred) : Act := { tmps := Array.ofFn fun i : Fin N => get E i.val, defers := ds }

def ev (E : List (Nat × Value)) : Operand → Value
  | .tmp t => get E t
  | .const v => v
  | .global g => .pointer (some ⟨g, 0, none⟩)
  | .func f => .func (.func f) #[] #[]

def okx (N : Nat) : Operand → Bool
  | .tmp t => Nat.blt t N
  | _ => true

/-- Operand x holds v. -/
structure Ev (N : Nat) (E : List (Nat × Value)) (x : Operand) (v : Value) : Prop where
  ok : okx N x = true
  is : ev E x = v

variable {N : Nat} {E : List (Nat × Value)} {ds : List Deferred}

theorem fr_eval {x : Operand} {v : Value} (h : Ev N E x v) : (fr N E ds).eval x = v := by
  obtain ⟨h1, h2⟩ := h
  cases x with
  | tmp t =>
    simp only [okx, Nat.blt_eq] at h1
    simp only [ev] at h2
    simp only [Act.eval, fr]
    rw [← h2]
    simp [Array.getD, h1]
  | const v => exact h2
  | global g => exact h2
  | func f => exact h2

theorem get_cons_same (d : Nat) (v : Value) : get ((d, v) :: E) d = v := by simp [get]
theorem get_cons_ne {d k : Nat} (v : Value) (h : k ≠ d) : get ((d, v) :: E) k = get E k := by
  have : Nat.beq k d = false := by
    cases h' : Nat.beq k d with
    | false => rfl
    | true => exact absurd (Nat.eq_of_beq_eq_true h') h
  simp only [get, this, cond_false]

theorem fr_put {d : Nat} (v : Value) (hd : Nat.blt d N = true) : (fr N E ds).put (some d) v = fr N ((d, v) :: E) ds := by
  simp only [Nat.blt_eq] at hd
  simp only [Act.put, fr]
  congr 1
  apply Array.ext
  · simp
  · intro i h1 h2
    simp only [Array.size_setIfInBounds, Array.size_ofFn] at h1
    rw [Array.getElem_setIfInBounds]
    · by_cases e : d = i
      · subst e; simp [get]
      · rw [if_neg e, Array.getElem_ofFn, Array.getElem_ofFn, get_cons_ne v (Ne.symm e)]
    · simpa using h1

theorem fr_dup {d : Nat} {v : Value} (h : get E d = v) : fr N E ds = fr N ((d, v) :: E) ds := by
  simp only [fr]
  congr 1
  apply Array.ext
  · simp
  · intro i h1 h2
    simp only [Array.size_ofFn] at h1
    by_cases e : i = d
    · subst e; simp [get, h]
    · simp [get_cons_ne v e]

/-- The frame at a call's beginning. -/
def numb : Nat → List Value → List (Nat × Value)
  | _, [] => []
  | k, v :: r => (k, v) :: numb (k + 1) r

theorem get_numb (l : List Value) : ∀ k i, k ≤ i → get (numb k l) i = l.getD (i - k) undef := by
  induction l with
  | nil => intro k i _; rfl
  | cons v r ih =>
    intro k i h
    by_cases e : i = k
    · subst e; simp [numb, get]
    · rw [numb, get_cons_ne v e, ih (k + 1) i (by omega)]
      obtain ⟨j, rfl⟩ : ∃ j, i = k + 1 + j := ⟨i - (k + 1), by omega⟩
      have h1 : k + 1 + j - (k + 1) = j := by omega
      have h2 : k + 1 + j - k = j + 1 := by omega
      rw [h1, h2]; simp

theorem fr_start (l : List Value) (h : Nat.ble l.length N = true) : (l.toArray ++ Array.replicate (N - l.toArray.size) undef : Array Value) = (fr N (numb 0 l) ds).tmps := by
  simp only [Nat.ble_eq] at h
  simp only [fr]
  apply Array.ext
  · simp; omega
  · intro i h1 h2
    simp only [Array.size_ofFn] at h2
    rw [Array.getElem_ofFn, get_numb l 0 i (by omega)]
    by_cases e : i < l.length
    · simp [Array.getElem_append, e]
    · simp [Array.getElem_append, e]

/-! ### Operations that only read -/
section
variable {P : Program}

/-- Operation o, in this frame, in every world that has w's blocks, yields v and leaves the world alone. -/
structure Rd (P : Program) (o : Oper) (N : Nat) (E : List (Nat × Value)) (w : World) (v : Value) : Prop where
  run : ∀ ds w', (∀ b, b < w.heap.size → w'.heap[b]? = w.heap[b]?) → (execOp (fr N E ds).eval o).run P w' = .ok (.value v) w'

variable {dst : Option Tmp} {ty : TypeId} {pos : String} {af : Array Edge} {g : Option (Nat × Bool)} {w : World}
variable {x y z : Operand} {v : Value}

theorem rd_move (h : Ev N E x v) : Rd P ⟨dst, .move x, ty, pos, af, g⟩ N E w v := by
  refine ⟨fun ds w' _ => ?_⟩
  simp [execOp, fr_eval h]
theorem rd_assign (h : Ev N E x v) : Rd P ⟨dst, .assign x, ty, pos, af, g⟩ N E w v := by
  refine ⟨fun ds w' _ => ?_⟩
  simp [execOp, fr_eval h]
theorem rd_pick_t (hc : Ev N E x (.bool true)) (h : Ev N E y v) : Rd P ⟨dst, .pick x y z, ty, pos, af, g⟩ N E w v := by
  refine ⟨fun ds w' _ => ?_⟩
  simp [execOp, fr_eval hc, fr_eval h, asBool]
theorem rd_pick_f (hc : Ev N E x (.bool false)) (h : Ev N E z v) : Rd P ⟨dst, .pick x y z, ty, pos, af, g⟩ N E w v := by
  refine ⟨fun ds w' _ => ?_⟩
  simp [execOp, fr_eval hc, fr_eval h, asBool]

section int
variable {k k' : IntKind} {a b : Int} {T : TypeId} {u : TypeId}
theorem run_eqGuard_int (op : BinOp) : (eqGuard op T x y (.int k a) (.int k' b)).run P w = .ok () w := by
  unfold eqGuard; split <;> simp
theorem rd_add (hx : Ev N E x (.int k a)) (hy : Ev N E y (.int k b)) {c : Int} (hc : k.wrap (a + b) = c) : Rd P ⟨dst, .binOp .add T x y u, ty, pos, af, g⟩ N E w (.int k c) := by
  refine ⟨fun ds w' _ => ?_⟩
  subst hc
  simp [execOp, fr_eval hx, fr_eval hy, binOp, Op.intArith, run_eqGuard_int]
theorem rd_sub (hx : Ev N E x (.int k a)) (hy : Ev N E y (.int k b)) {c : Int} (hc : k.wrap (a - b) = c) : Rd P ⟨dst, .binOp .sub T x y u, ty, pos, af, g⟩ N E w (.int k c) := by
  refine ⟨fun ds w' _ => ?_⟩
  subst hc
  simp [execOp, fr_eval hx, fr_eval hy, binOp, Op.intArith, run_eqGuard_int]
theorem rd_mul (hx : Ev N E x (.int k a)) (hy : Ev N E y (.int k b)) {c : Int} (hc : k.wrap (a * b) = c) : Rd P ⟨dst, .binOp .mul T x y u, ty, pos, af, g⟩ N E w (.int k c) := by
  refine ⟨fun ds w' _ => ?_⟩
  subst hc
  simp [execOp, fr_eval hx, fr_eval hy, binOp, Op.intArith, run_eqGuard_int]
theorem rd_lss (hx : Ev N E x (.int k a)) (hy : Ev N E y (.int k b)) : Rd P ⟨dst, .binOp .lss T x y u, ty, pos, af, g⟩ N E w (.bool (decide (a < b))) := by
  refine ⟨fun ds w' _ => ?_⟩
  simp [execOp, fr_eval hx, fr_eval hy, binOp, Op.intCmp, run_eqGuard_int]
theorem rd_leq (hx : Ev N E x (.int k a)) (hy : Ev N E y (.int k b)) : Rd P ⟨dst, .binOp .leq T x y u, ty, pos, af, g⟩ N E w (.bool (decide (a ≤ b))) := by
  refine ⟨fun ds w' _ => ?_⟩
  simp [execOp, fr_eval hx, fr_eval hy, binOp, Op.intCmp, run_eqGuard_int]
theorem rd_gtr (hx : Ev N E x (.int k a)) (hy : Ev N E y (.int k b)) : Rd P ⟨dst, .binOp .gtr T x y u, ty, pos, af, g⟩ N E w (.bool (decide (a > b))) := by
  refine ⟨fun ds w' _ => ?_⟩
  simp [execOp, fr_eval hx, fr_eval hy, binOp, Op.intCmp, run_eqGuard_int]
theorem rd_geq (hx : Ev N E x (.int k a)) (hy : Ev N E y (.int k b)) : Rd P ⟨dst, .binOp .geq T x y u, ty, pos, af, g⟩ N E w (.bool (decide (a ≥ b))) := by
  refine ⟨fun ds w' _ => ?_⟩
  simp [execOp, fr_eval hx, fr_eval hy, binOp, Op.intCmp, run_eqGuard_int]
theorem rd_eql (hx : Ev N E x (.int k a)) (hy : Ev N E y (.int k b)) : Rd P ⟨dst, .binOp .eql T x y u, ty, pos, af, g⟩ N E w (.bool (decide (a = b))) := by
  refine ⟨fun ds w' _ => ?_⟩
  have : (a == b) = decide (a = b) := by by_cases h : a = b <;> simp [h]
  simp [execOp, fr_eval hx, fr_eval hy, binOp, Op.intCmp, run_eqGuard_int]
  exact this
theorem rd_neq (hx : Ev N E x (.int k a)) (hy : Ev N E y (.int k b)) : Rd P ⟨dst, .binOp .neq T x y u, ty, pos, af, g⟩ N E w (.bool (decide (a ≠ b))) := by
  refine ⟨fun ds w' _ => ?_⟩
  have : (a != b) = decide (a ≠ b) := by by_cases h : a = b <;> simp [h]
  simp [execOp, fr_eval hx, fr_eval hy, binOp, Op.intCmp, run_eqGuard_int]
  rw [this]; simp
theorem rd_quo (hx : Ev N E x (.int k a)) (hy : Ev N E y (.int k b)) (hb : b ≠ 0) {c : Int} (hc : k.wrap (a.tdiv b) = c) : Rd P ⟨dst, .binOp .quo T x y u, ty, pos, af, g⟩ N E w (.int k c) := by
  refine ⟨fun ds w' _ => ?_⟩
  subst hc
  simp [execOp, fr_eval hx, fr_eval hy, binOp, Op.intDiv, run_eqGuard_int, hb]
theorem rd_rem (hx : Ev N E x (.int k a)) (hy : Ev N E y (.int k b)) (hb : b ≠ 0) {c : Int} (hc : a.tmod b = c) : Rd P ⟨dst, .binOp .rem T x y u, ty, pos, af, g⟩ N E w (.int k c) := by
  refine ⟨fun ds w' _ => ?_⟩
  subst hc
  simp [execOp, fr_eval hx, fr_eval hy, binOp, Op.intDiv, run_eqGuard_int, hb]
theorem rd_and (hx : Ev N E x (.int k a)) (hy : Ev N E y (.int k b)) {c : Int} (hc : k.wrap (BitVec.ofInt k.bits a &&& BitVec.ofInt k.bits b).toNat = c) : Rd P ⟨dst, .binOp .and T x y u, ty, pos, af, g⟩ N E w (.int k c) := by
  refine ⟨fun ds w' _ => ?_⟩
  subst hc
  simp [execOp, fr_eval hx, fr_eval hy, binOp, Op.intBits, run_eqGuard_int]
theorem rd_or (hx : Ev N E x (.int k a)) (hy : Ev N E y (.int k b)) {c : Int} (hc : k.wrap (BitVec.ofInt k.bits a ||| BitVec.ofInt k.bits b).toNat = c) : Rd P ⟨dst, .binOp .or T x y u, ty, pos, af, g⟩ N E w (.int k c) := by
  refine ⟨fun ds w' _ => ?_⟩
  subst hc
  simp [execOp, fr_eval hx, fr_eval hy, binOp, Op.intBits, run_eqGuard_int]
theorem rd_andNot (hx : Ev N E x (.int k a)) (hy : Ev N E y (.int k b)) {c : Int} (hc : k.wrap (BitVec.ofInt k.bits a &&& ~~~ BitVec.ofInt k.bits b).toNat = c) : Rd P ⟨dst, .binOp .andNot T x y u, ty, pos, af, g⟩ N E w (.int k c) := by
  refine ⟨fun ds w' _ => ?_⟩
  subst hc
  simp [execOp, fr_eval hx, fr_eval hy, binOp, Op.intBits, run_eqGuard_int]
theorem rd_shr {n : Nat} (hx : Ev N E x (.int k a)) (hy : Ev N E y (.int k' b)) (h0 : 0 ≤ b) (hn : min b.toNat k.bits = n) : Rd P ⟨dst, .binOp .shr T x y u, ty, pos, af, g⟩ N E w (.int k (a.fdiv (2 ^ n))) := by
  refine ⟨fun ds w' _ => ?_⟩
  subst hn
  have : ¬ b < 0 := by omega
  simp [execOp, fr_eval hx, fr_eval hy, binOp, Op.shift, run_eqGuard_int, this]
theorem rd_shl {n : Nat} (hx : Ev N E x (.int k a)) (hy : Ev N E y (.int k' b)) (h0 : 0 ≤ b) (hn : min b.toNat k.bits = n) {c : Int} (hc : k.wrap (a * 2 ^ n) = c) : Rd P ⟨dst, .binOp .shl T x y u, ty, pos, af, g⟩ N E w (.int k c) := by
  refine ⟨fun ds w' _ => ?_⟩
  subst hn; subst hc
  have : ¬ b < 0 := by omega
  simp [execOp, fr_eval hx, fr_eval hy, binOp, Op.shift, run_eqGuard_int, this]
theorem rd_not {b : Bool} (hx : Ev N E x (.bool b)) : Rd P ⟨dst, .unOp .not T x, ty, pos, af, g⟩ N E w (.bool (!b)) := by
  refine ⟨fun ds w' _ => ?_⟩
  simp [execOp, fr_eval hx, Op.unary]
end int
end
end Go.Proofs.YtiolpldihoghiaaDoor

namespace Go.Proofs.YtiolpldihoghiaaDoor
open Go.RowKit
set_option linter.unusedVariables false
set_option linter.unusedSimpArgs false

/-! ### What holds whatever becomes of the blocks M -/
def Stab (w : World) (M : Nat → Prop) (f : World → Prop) : Prop :=
  ∀ w', w.heap.size ≤ w'.heap.size → (∀ b, b < w.heap.size → ¬ M b → w'.heap[b]? = w.heap[b]?) → f w'

section
variable {w w1 : World} {M M1 : Nat → Prop} {f g : World → Prop}
theorem Stab.now (h : Stab w M f) : f w := h w (Nat.le_refl _) fun _ _ _ => rfl
theorem Stab.mono (h : Stab w M f) (hM : ∀ b, M1 b → M b) : Stab w M1 f :=
  fun w' hs hw => h w' hs fun b hb hn => hw b hb fun h1 => hn (hM b h1)
theorem Stab.imp (h : Stab w M f) (hi : ∀ w', f w' → g w') : Stab w M g := fun w' hs hw => hi w' (h w' hs hw)
theorem Stab.and (h : Stab w M f) (k : Stab w M g) : Stab w M fun w' => f w' ∧ g w' := fun w' hs hw => ⟨h w' hs hw, k w' hs hw⟩
theorem Stab.step (h : Stab w M f) (hs : w.heap.size ≤ w1.heap.size) (hw : ∀ b, b < w.heap.size → ¬ M b → w1.heap[b]? = w.heap[b]?)
    (hM : ∀ b, M1 b → M b ∨ w.heap.size ≤ b) : Stab w1 M1 f := fun w' hs' hw' =>
  h w' (Nat.le_trans hs hs') fun b hb hn => (hw' b (Nat.lt_of_lt_of_le hb hs) fun h1 => by
    rcases hM b h1 with h2 | h2
    · exact hn h2
    · omega).trans (hw b hb hn)
theorem Stab.pure {p : Prop} (h : p) : Stab w M fun _ => p := fun _ _ _ => h
end

/-! ### How data lie in memory -/
abbrev Rp (α : Type) := World → α → List Value → Prop
def rng : IntKind → Int → Prop
  | .i64, n => -9223372036854775808 ≤ n ∧ n ≤ 9223372036854775807
  | .u64, n => 0 ≤ n ∧ n ≤ 18446744073709551615
  | .u32, n => 0 ≤ n ∧ n ≤ 4294967295
  | .u16, n => 0 ≤ n ∧ n ≤ 65535
  | .u8, n => 0 ≤ n ∧ n ≤ 255
  | _, _ => True
def kInt (k : IntKind) : Rp Int := fun _ n cs => cs = [.int k n] ∧ rng k n
def kBool : Rp Bool := fun _ b cs => cs = [.bool b]
structure Row {α : Type} (d : Rp α) (sz : Nat) (A : Option Addr) (xs : List α) (w : World) : Prop where
  len : xs.length ≤ 140737488355328
  at_ : (xs ≠ [] → ∃ a, A = some a ∧ ∀ i x, xs[i]? = some x → ∃ cs, cs.length = sz ∧ d w x cs ∧ ∀ j u, cs[j]? = some u → w.cell? (a.add (i * sz + j)) = some u)
def kSl {α : Type} (sz : Nat) (d : Rp α) : Rp (List α) := fun w xs cs => ∃ A c, cs = [.slice A xs.length c] ∧ xs.length ≤ c ∧ c ≤ 9223372036854775807 ∧ Row d sz A xs w

class Comp {α : Type} (d : Rp α) (j : Nat) (f : outParam (α → Value)) : Prop where
  get : ∀ {w x cs}, d w x cs → cs[j]? = some (f x)
class CompS {α β : Type} (d : Rp α) (j : Nat) (f : outParam (α → List β)) (sz : outParam Nat) (d' : outParam (Rp β)) : Prop where
  get : ∀ {w x cs}, d w x cs → ∃ A c, cs[j]? = some (.slice A (f x).length c) ∧ (f x).length ≤ c ∧ c ≤ 9223372036854775807 ∧ Row d' sz A (f x) w
class OneC {α : Type} (d : Rp α) : Prop where
  one : ∀ {w x cs}, d w x cs → ∀ u ∈ cs, u.oneCell' = true

instance (k : IntKind) : Comp (kInt k) 0 (Value.int k) := ⟨fun h => by rw [h.1]; rfl⟩
instance : Comp kBool 0 Value.bool := ⟨fun h => by rw [h]; rfl⟩
instance {α : Type} (sz : Nat) (d : Rp α) : CompS (kSl sz d) 0 id sz d := ⟨fun h => by obtain ⟨A, c, rfl, h⟩ := h; exact ⟨A, c, rfl, h⟩⟩
instance (k : IntKind) : OneC (kInt k) := ⟨fun h u hu => by rw [h.1] at hu; simp at hu; subst hu; rfl⟩
instance : OneC kBool := ⟨fun h u hu => by rw [h] at hu; simp at hu; subst hu; rfl⟩
instance {α : Type} (sz : Nat) (d : Rp α) : OneC (kSl sz d) := ⟨fun h u hu => by obtain ⟨A, c, rfl, h⟩ := h; simp at hu; subst hu; rfl⟩

theorem Row.nil {α : Type} {d : Rp α} {sz : Nat} {A : Option Addr} {w : World} : Row d sz A ([] : List α) w := ⟨by simp, fun h => absurd rfl h⟩

/-- One element, laid open for good. -/
theorem Stab.elem {α : Type} {d : Rp α} {sz : Nat} {A : Option Addr} {xs : List α} {w : World} {M : Nat → Prop} (h : Stab w M (Row d sz A xs)) (hsz : 0 < sz) {i : Nat} {x : α} (hx : xs[i]? = some x) :
    ∃ a cs, A = some a ∧ cs.length = sz ∧ Stab w M (fun w' => d w' x cs) ∧ ∀ j u, cs[j]? = some u → Stab w M (fun w' => w'.cell? (a.add (i * sz + j)) = some u) := by
  have hne : xs ≠ [] := by intro e; rw [e] at hx; simp at hx
  obtain ⟨a, ha, hc⟩ := h.now.at_ hne
  obtain ⟨cs, hl, hd, hcell⟩ := hc i x hx
  have hall : ∀ w', w.heap.size ≤ w'.heap.size → (∀ b, b < w.heap.size → ¬ M b → w'.heap[b]? = w.heap[b]?) → ∃ cs', cs'.length = sz ∧ d w' x cs' ∧ ∀ j u, cs'[j]? = some u → w'.cell? (a.add (i * sz + j)) = some u := by
    intro w' hs hw
    obtain ⟨a', ha', hc'⟩ := (h w' hs hw).at_ hne
    rw [ha] at ha'; injection ha' with ha'; subst ha'
    exact hc' i x hx
  have hblk : ∀ j, (a.add (i * sz + j)).block = a.block := by intro j; unfold Addr.add; split <;> rfl
  have hlt : a.block < w.heap.size := by
    have h0 : cs[0]? = some (cs[0]'(by omega)) := List.getElem?_eq_getElem (by omega)
    have := hcell 0 _ h0
    have h2 := World.block_lt_of_cell? w _ this
    rwa [hblk] at h2
  have hnM : ¬ M a.block := by
    intro hm
    obtain ⟨cs', hl', _, hcell'⟩ := hall { w with heap := w.heap.setIfInBounds a.block (.map #[] 0) } (by simp) (fun b hb hn => by
      have : a.block ≠ b := fun e => hn (e ▸ hm)
      simp [Array.getElem?_setIfInBounds, this])
    have h0 : cs'[0]? = some (cs'[0]'(by omega)) := List.getElem?_eq_getElem (by omega)
    have := hcell' 0 _ h0
    unfold World.cell? at this
    rw [hblk] at this
    simp [hlt] at this
  refine ⟨a, cs, ha, hl, ?_, ?_⟩
  · intro w' hs hw
    obtain ⟨cs', hl', hd', hcell'⟩ := hall w' hs hw
    have : cs' = cs := by
      apply List.ext_getElem (by omega)
      intro j h1 h2
      have e1 := hcell' j _ (List.getElem?_eq_getElem h1)
      have e2 := hcell j _ (List.getElem?_eq_getElem h2)
      have e3 : w'.cell? (a.add (i * sz + j)) = w.cell? (a.add (i * sz + j)) := World.cell?_of_block (by rw [hblk]; exact hw _ hlt hnM)
      rw [e1, e2] at e3
      injection e3
    rwa [this] at hd'
  · intro j u hu w' hs hw
    rw [← hcell j u hu]
    exact World.cell?_of_block (by rw [hblk]; exact hw _ hlt hnM)

/-- A slice field, laid open for good. -/
theorem Stab.comps {α β : Type} {d : Rp α} {j : Nat} {f : α → List β} {sz : Nat} {d' : Rp β} [hi : CompS d j f sz d'] {w : World} {M : Nat → Prop} {x : α} {cs : List Value} (h : Stab w M (fun w' => d w' x cs)) :
    ∃ A c, cs[j]? = some (.slice A (f x).length c) ∧ (f x).length ≤ c ∧ c ≤ 9223372036854775807 ∧ Stab w M (Row d' sz A (f x)) := by
  obtain ⟨A, c, h1, h2, h3, _⟩ := hi.get h.now
  refine ⟨A, c, h1, h2, h3, fun w' hs hw => ?_⟩
  obtain ⟨A', c', h1', _, _, h4⟩ := hi.get (h w' hs hw)
  rw [h1] at h1'
  injection h1' with h1'
  injection h1' with h1' _ _
  rwa [h1']

/-! ### The state of a call -/
structure Loc where
  b : Nat
  cs : List Value
  t : TypeId
structure Own where
  v : Value
  e : TypeId
  sz : Nat
  n : Nat
  cs : List Value

def Mu (M : Nat → Prop) (L : List Loc) (O : List Own) (b : Nat) : Prop := M b ∨ (∃ l ∈ L, l.b = b) ∨ (∃ o ∈ O, o.v.ownBlock = some b)

structure Hp (w0 : World) (M : Nat → Prop) (w : World) (L : List Loc) (O : List Own) (F : List (World → Prop)) : Prop where
  below : Below w0.heap.size w0 w
  loc : ∀ l ∈ L, w0.heap.size ≤ l.b ∧ w.heap[l.b]? = some (.cells l.cs.toArray l.t (0, 0))
  own : ∀ o ∈ O, w.ownsRow w0.heap.size o.e o.sz o.v o.n o.cs
  nd : (L.map Loc.b).Nodup
  od : O.Pairwise fun o o' => o.v.ownBlock = none ∨ o.v.ownBlock ≠ o'.v.ownBlock
  lo : ∀ l ∈ L, ∀ o ∈ O, o.v.ownBlock ≠ some l.b
  fact : ∀ f ∈ F, Stab w (Mu M L O) f

section
variable {w0 w w1 : World} {M : Nat → Prop} {L : List Loc} {O : List Own} {F : List (World → Prop)}

theorem Hp.start (w : World) (M : Nat → Prop) (F : List (World → Prop)) (hF : ∀ f ∈ F, Stab w M f) : Hp w M w [] [] F :=
  ⟨Below.refl _ _, by simp, by simp, by simp, by simp, by simp, fun f hf => (hF f hf).mono fun b hb => by rcases hb with h | ⟨_, h, _⟩ | ⟨_, h, _⟩ <;> first | exact h | simp at h⟩

theorem Hp.size (h : Hp w0 M w L O F) : w0.heap.size ≤ w.heap.size := h.below.size
theorem Hp.lt (h : Hp w0 M w L O F) {l : Loc} (hl : l ∈ L) : l.b < w.heap.size := (Array.getElem?_eq_some_iff.1 (h.loc l hl).2).1

/-- More is known. -/
theorem Hp.add (h : Hp w0 M w L O F) {f : World → Prop} (hf : Stab w (Mu M L O) f) : Hp w0 M w L O (f :: F) :=
  ⟨h.below, h.loc, h.own, h.nd, h.od, h.lo, fun g hg => by rcases List.mem_cons.1 hg with rfl | hg; exact hf; exact h.fact g hg⟩
theorem Hp.facts (h : Hp w0 M w L O F) {F' : List (World → Prop)} (hF : ∀ f ∈ F', Stab w (Mu M L O) f) : Hp w0 M w L O F' :=
  ⟨h.below, h.loc, h.own, h.nd, h.od, h.lo, hF⟩

/-- Nothing that was there has turned. -/
theorem Hp.ext (h : Hp w0 M w L O F) (hb : Below w.heap.size w w1) : Hp w0 M w1 L O F :=
  ⟨h.below.trans (hb.mono h.size), fun l hl => ⟨(h.loc l hl).1, (hb.block _ (h.lt hl)).trans (h.loc l hl).2⟩,
   fun o ho => (h.own o ho).kept (row := none) ⟨hb.os, hb.tape, hb.output, hb.size, fun k hk _ => hb.block k hk⟩ (by cases o.v.ownBlock <;> simp),
   h.nd, h.od, h.lo, fun f hf => (h.fact f hf).step hb.size (fun b hb' _ => hb.block b hb') fun b hb' => .inl hb'⟩
theorem Hp.drew (h : Hp w0 M w L O F) (n : Nat) : Hp w0 M (w.drewN n) L O F := by
  refine h.ext ⟨rfl, rfl, rfl, Nat.le_refl _, fun _ _ => rfl⟩

/-- A new block. -/
theorem Hp.alloc (h : Hp w0 M w L O F) (cs : List Value) (t : TypeId) : Hp w0 M (w.alloc (.cells cs.toArray t)) (⟨w.heap.size, cs, t⟩ :: L) O F := by
  have hb : Below w.heap.size w (w.alloc (.cells cs.toArray t)) := (Below.refl _ _).alloc (Nat.le_refl _) _
  have h' := h.ext hb
  refine ⟨h'.below, ?_, h'.own, ?_, h'.od, ?_, ?_⟩
  · intro l hl
    rcases List.mem_cons.1 hl with rfl | hl
    · exact ⟨h.size, heap_alloc_new w _⟩
    · exact h'.loc l hl
  · simp only [List.map_cons, List.nodup_cons]
    refine ⟨fun hm => ?_, h.nd⟩
    obtain ⟨l, hl, he⟩ := List.mem_map.1 hm
    have := h.lt hl
    omega
  · intro l hl o ho
    rcases List.mem_cons.1 hl with rfl | hl
    · intro e
      have := ((h.own o ho).lt _ e).2
      simp at this
    · exact h.lo l hl o ho
  · intro f hf
    refine (h.fact f hf).step hb.size (fun b hb' _ => hb.block b hb') ?_
    rintro b (h1 | ⟨l, hl, rfl⟩ | h1)
    · exact .inl (.inl h1)
    · rcases List.mem_cons.1 hl with rfl | hl
      · exact .inr (Nat.le_refl _)
      · exact .inl (.inr (.inl ⟨l, hl, rfl⟩))
    · exact .inl (.inr (.inr h1))

theorem nodup_get {l1 l2 : Loc} {i j : Nat} (hn : (L.map Loc.b).Nodup) (h1 : L[i]? = some l1) (h2 : L[j]? = some l2) (hb : l1.b = l2.b) : i = j := by
  have e1 : (L.map Loc.b)[i]? = some l1.b := by simp [h1]
  have e2 : (L.map Loc.b)[j]? = some l2.b := by simp [h2]
  rw [← hb] at e2
  generalize L.map Loc.b = K at *
  clear h1 h2
  obtain ⟨hi, e1⟩ := List.getElem?_eq_some_iff.1 e1
  obtain ⟨hj, e2⟩ := List.getElem?_eq_some_iff.1 e2
  have hp := List.pairwise_iff_getElem.1 hn
  rcases Nat.lt_trichotomy i j with h | h | h
  · exact absurd (e1.trans e2.symm) (hp i j hi hj h)
  · exact h
  · exact absurd (e2.trans e1.symm) (hp j i hj hi h)

/-- A block of one's own is written. -/
theorem Hp.set (h : Hp w0 M w L O F) {i : Nat} {l : Loc} (hl : L[i]? = some l) (cs : List Value) (hw : w1.heap.size = w.heap.size) (hos : w1.os = w.os ∧ w1.tape = w.tape ∧ w1.output = w.output)
    (h1 : w1.heap[l.b]? = some (.cells cs.toArray l.t (0, 0))) (h2 : ∀ b, b ≠ l.b → w1.heap[b]? = w.heap[b]?) : Hp w0 M w1 (L.set i ⟨l.b, cs, l.t⟩) O F := by
  have hmem : l ∈ L := List.mem_of_getElem? hl
  have hmap : (L.set i ⟨l.b, cs, l.t⟩).map Loc.b = L.map Loc.b := by
    apply List.ext_getElem?
    intro j
    simp only [List.getElem?_map, List.getElem?_set]
    by_cases e : i = j
    · subst e
      obtain ⟨hi, he⟩ := List.getElem?_eq_some_iff.1 hl
      simp [hi, he]
    · simp [e]
  have hset : ∀ l', l' ∈ L.set i ⟨l.b, cs, l.t⟩ → l' = ⟨l.b, cs, l.t⟩ ∨ (l' ∈ L ∧ l'.b ≠ l.b) := by
    intro l' hl'
    obtain ⟨j, hj⟩ := List.mem_iff_getElem?.1 hl'
    rw [List.getElem?_set] at hj
    by_cases e : i = j
    · subst e
      have hi := (List.getElem?_eq_some_iff.1 hl).1
      simp [hi] at hj
      exact .inl hj.symm
    · rw [if_neg e] at hj
      exact .inr ⟨List.mem_of_getElem? hj, fun hb => e (nodup_get h.nd hl hj hb.symm)⟩
  refine ⟨⟨hos.1.trans h.below.os, hos.2.1.trans h.below.tape, hos.2.2.trans h.below.output, by rw [hw]; exact h.size, fun b hb => ?_⟩, ?_, ?_, by rw [hmap]; exact h.nd, h.od, ?_, ?_⟩
  · have := (h.loc l hmem).1
    rw [h2 b (by omega)]
    exact h.below.block b hb
  · intro l' hl'
    rcases hset l' hl' with rfl | ⟨hl', hne⟩
    · exact ⟨(h.loc l hmem).1, h1⟩
    · exact ⟨(h.loc l' hl').1, (h2 _ hne).trans (h.loc l' hl').2⟩
  · intro o ho
    refine (h.own o ho).kept (row := some l.b) ⟨hos.1, hos.2.1, hos.2.2, by omega, fun k _ hk => h2 k (fun e => hk (by rw [e]))⟩ (.inr (h.lo l hmem o ho))
  · intro l' hl' o ho
    rcases hset l' hl' with rfl | ⟨hl', _⟩
    · exact h.lo l hmem o ho
    · exact h.lo l' hl' o ho
  · intro f hf
    refine (h.fact f hf).step (by omega) (fun b hb hn => h2 b fun e => hn (.inr (.inl ⟨l, hmem, e.symm⟩))) ?_
    rintro b (hb | ⟨l', hl', rfl⟩ | hb)
    · exact .inl (.inl hb)
    · rcases hset l' hl' with rfl | ⟨hl', _⟩
      · exact .inl (.inr (.inl ⟨l, hmem, rfl⟩))
      · exact .inl (.inr (.inl ⟨l', hl', rfl⟩))
    · exact .inl (.inr (.inr hb))
end
end Go.Proofs.YtiolpldihoghiaaDoor

namespace Go.Proofs.YtiolpldihoghiaaDoor
open Go.RowKit
set_option linter.unusedVariables false
set_option linter.unusedSimpArgs false

/-! ### Types of the program -/
class SlTy (P : Program) (t : TypeId) (e : outParam TypeId) (sz bytes : outParam Nat) : Prop where
  und : P.underlying t = some (.slice e)
  inf : ∃ i, P.info? e = some i ∧ i.size = sz ∧ i.bytes = bytes ∧ ∃ z, i.zero = some z ∧ z.cells.size = sz
  pos : 0 < sz ∧ 0 < bytes
def isAggB : TypeDesc → Bool
  | .struct _ | .array _ _ => true
  | _ => false
class ScT (P : Program) (T : TypeId) : Prop where
  und : ∃ d, P.underlying T = some d ∧ isAggB d = false
  inf : ∃ i, P.info? T = some i ∧ i.size = 1
class AgT (P : Program) (T : TypeId) (sz : outParam Nat) : Prop where
  und : ∃ d, P.underlying T = some d ∧ isAggB d = true
  inf : ∃ i, P.info? T = some i ∧ i.size = sz
class FdT (P : Program) (T : TypeId) (f : Nat) (off : outParam Nat) : Prop where
  und : ∃ fs fd, P.underlying T = some (.struct fs) ∧ fs[f]? = some fd ∧ fd.offset = off ∧ ∃ i, P.info? fd.type = some i ∧ i.size ≠ 0
class ZrT (P : Program) (T : TypeId) (z : outParam (List Value)) : Prop where
  inf : ∃ i v, P.info? T = some i ∧ i.zero = some v ∧ v.cells.toList = z

section
variable {P : Program} {N : Nat} {E : List (Nat × Value)} {ds : List Deferred}
variable {dst : Option Tmp} {ty : TypeId} {pos : String} {af : Array Edge} {g : Option (Nat × Bool)} {w : World}
variable {x y z : Operand} {v : Value} {T : TypeId}

theorem run_isAgg {d : TypeDesc} (h : P.underlying T = some d) : (isAgg T).run P w = .ok (isAggB d) w := by
  simp only [isAgg, underlying, Sem.run_bind, run_program, Result.andThen_ok, h, Sem.run_pure]
  cases d <;> rfl
theorem run_sizeOf_ {i : TypeInfo} (h : P.info? T = some i) : (sizeOf T).run P w = .ok i.size w := by
  simp [sizeOf, typeInfo, h]
theorem run_load_ {a : Addr} {v : Value} (h : w.cell? a = some v) : (load a).run P w = .ok v w := by
  rw [run_load, h]

theorem cell_kept {w' : World} (hw : ∀ b, b < w.heap.size → w'.heap[b]? = w.heap[b]?) {a : Addr} {v : Value} (h : w.cell? a = some v) : w'.cell? a = some v := by
  rw [← h]; exact World.cell?_of_block (hw _ (World.block_lt_of_cell? w a h))

/-! ### Reads of memory -/
theorem rd_load_sc [hT : ScT P T] {a : Addr} (hp : Ev N E x (.pointer (some a))) (hc : w.cell? a = some v) : Rd P ⟨dst, .load T x, ty, pos, af, g⟩ N E w v := by
  refine ⟨fun ds w' hw => ?_⟩
  obtain ⟨d, hd, hb⟩ := hT.und
  have hc' := cell_kept hw hc
  simp [execOp, fr_eval hp, Instr.loadAt, Instr.sureAddr, loadVar, run_isAgg hd, hb, hc']
theorem rd_load_ag {sz : Nat} [hT : AgT P T sz] {a : Addr} {cs : List Value} (hp : Ev N E x (.pointer (some a))) (hl : cs.length = sz) (hc : ∀ j u, cs[j]? = some u → w.cell? (a.add j) = some u) :
    Rd P ⟨dst, .load T x, ty, pos, af, g⟩ N E w (.agg cs.toArray) := by
  refine ⟨fun ds w' hw => ?_⟩
  obtain ⟨d, hd, hb⟩ := hT.und
  obtain ⟨i, hi, hs⟩ := hT.inf
  have h1 := run_loadCells_list (P := P) w' a cs (fun j u hu => cell_kept hw (hc j u hu))
  rw [hl, ← hs] at h1
  simp [execOp, fr_eval hp, Instr.loadAt, Instr.sureAddr, loadVar, run_isAgg hd, hb, run_sizeOf_ hi, h1]
theorem rd_field {off : Nat} {f : Nat} [hT : FdT P T f off] {a : Addr} (hp : Ev N E x (.pointer (some a))) : Rd P ⟨dst, .fieldAddr T x f, ty, pos, af, g⟩ N E w (.pointer (some (a.add off))) := by
  refine ⟨fun ds w' hw => ?_⟩
  obtain ⟨fs, fd, h1, h2, h3, i, h4, h5⟩ := hT.und
  subst h3
  simp [execOp, fr_eval hp, Instr.fieldAt, underlying, h1, h2, Instr.sureAddr, fieldPlace, run_sizeOf_ h4, h5]

theorem rd_nilCheck {a : Addr} (hp : Ev N E x (.pointer (some a))) : Rd P ⟨dst, .nilCheck x, ty, pos, af, g⟩ N E w (.pointer (some a)) := by
  refine ⟨fun ds w' hw => ?_⟩
  simp [execOp, fr_eval hp]

/-- The address of cell j of element i (of sz cells) of a slice; of a row of one's own. -/
def ep (A : Option Addr) (i sz j : Nat) : Value := .pointer (A.map fun a => a.add (i * sz + j))
def op (v : Value) (i sz j : Nat) : Value := .pointer (v.ownBlock.map fun b => ⟨b, i * sz + j, none⟩)
/-- A local variable's cell. -/
def lp (b j : Nat) : Value := .pointer (some ⟨b, j, none⟩)

theorem add_add (a : Addr) (m n : Nat) : (a.add m).add n = a.add (m + n) := by
  unfold Addr.add
  by_cases h1 : m = 0
  · subst h1; simp
  · by_cases h2 : n = 0
    · subst h2; simp
    · simp [h1, h2, Nat.add_assoc]
theorem add_zero_ (b m n : Nat) : (⟨b, m, none⟩ : Addr).add n = ⟨b, m + n, none⟩ := by
  unfold Addr.add; split
  · rename_i h; subst h; rfl
  · rfl

theorem rd_field_lp {off : Nat} {f : Nat} [hT : FdT P T f off] {b : Nat} (hp : Ev N E x (lp b 0)) : Rd P ⟨dst, .fieldAddr T x f, ty, pos, af, g⟩ N E w (lp b off) := by
  have h := rd_field (dst := dst) (ty := ty) (pos := pos) (af := af) (g := g) (w := w) (hT := hT) hp
  rwa [add_zero_, Nat.zero_add] at h

variable {w0 : World} {M : Nat → Prop} {L : List Loc} {O : List Own} {F : List (World → Prop)}

theorem rd_load_lp [hT : ScT P T] (H : Hp w0 M w L O F) {b j i : Nat} {cs : List Value} {t : TypeId} (hp : Ev N E x (lp b j)) (hl : L[i]? = some ⟨b, cs, t⟩) (hv : cs[j]? = some v) :
    Rd P ⟨dst, .load T x, ty, pos, af, g⟩ N E w v := by
  refine rd_load_sc hp ?_
  have := (H.loc _ (List.mem_of_getElem? hl)).2
  rw [cell_of_row w b j _ _ _ this]
  simpa using hv
theorem rd_load_lp_ag {sz : Nat} [hT : AgT P T sz] (H : Hp w0 M w L O F) {b i : Nat} {cs : List Value} {t : TypeId} (hp : Ev N E x (lp b 0)) (hl : L[i]? = some ⟨b, cs, t⟩) (hv : Nat.beq cs.length sz = true) :
    Rd P ⟨dst, .load T x, ty, pos, af, g⟩ N E w (.agg cs.toArray) := by
  refine rd_load_ag hp (Nat.eq_of_beq_eq_true hv) fun j u hu => ?_
  have := (H.loc _ (List.mem_of_getElem? hl)).2
  rw [add_zero_, Nat.zero_add, cell_of_row w b j _ _ _ this]
  simpa using hu

/-- An element's address. -/
theorem rd_index {α : Type} {d : Rp α} {e sz by_ : Nat} [hT : SlTy P T e sz by_] (H : Hp w0 M w L O F) {A : Option Addr} {xs : List α} {c : Nat} {k : IntKind} {i : Nat} {n : Int}
    (hx : Ev N E x (.slice A xs.length c)) (hm : Row d sz A xs ∈ F) (hy : Ev N E y (.int k n)) (hn : n = (i : Int)) (hi : i < xs.length) : Rd P ⟨dst, .indexAddr T x y, ty, pos, af, g⟩ N E w (ep A i sz 0) := by
  refine ⟨fun ds w' hw => ?_⟩
  obtain ⟨ii, h1, h2, _⟩ := hT.inf
  obtain ⟨a, ha, _⟩ := ((H.fact _ hm).now).at_ (by intro e; rw [e] at hi; simp at hi)
  subst ha
  subst hn
  subst h2
  simp [execOp, fr_eval hx, fr_eval hy, Instr.indexAt, asIntOf, underlying, hT.und, run_sizeOf_ h1, ep, hi]
theorem rd_field_ep {off : Nat} {f : Nat} [hT : FdT P T f off] {A : Option Addr} {i sz : Nat} (hA : A ≠ none) (hp : Ev N E x (ep A i sz 0)) : Rd P ⟨dst, .fieldAddr T x f, ty, pos, af, g⟩ N E w (ep A i sz off) := by
  obtain ⟨a, rfl⟩ := Option.ne_none_iff_exists'.1 hA
  have h := rd_field (dst := dst) (ty := ty) (pos := pos) (af := af) (g := g) (w := w) (hT := hT) hp
  rw [add_add] at h
  exact h
/-- A scalar of an element. -/
theorem rd_load_ep {α : Type} {d : Rp α} {sz j : Nat} {f : α → Value} [hT : ScT P T] [hC : Comp d j f] (H : Hp w0 M w L O F) {A : Option Addr} {xs : List α} {i : Nat} {u : α} (hp : Ev N E x (ep A i sz j)) (hm : Row d sz A xs ∈ F)
    (hs : Nat.blt 0 sz = true) (hu : xs[i]? = some u) : Rd P ⟨dst, .load T x, ty, pos, af, g⟩ N E w (f u) := by
  obtain ⟨a, cs, rfl, _, hd, hc⟩ := (H.fact _ hm).elem (by simpa using hs) hu
  exact rd_load_sc hp (hc j _ (hC.get hd.now)).now
/-- A slice of an element. -/
theorem rd_load_eps {α β : Type} {d : Rp α} {sz j : Nat} {f : α → List β} {sz' : Nat} {d' : Rp β} [hT : ScT P T] [hC : CompS d j f sz' d'] (H : Hp w0 M w L O F) {A : Option Addr} {xs : List α} {i : Nat} {u : α}
    (hp : Ev N E x (ep A i sz j)) (hm : Row d sz A xs ∈ F) (hs : Nat.blt 0 sz = true) (hu : xs[i]? = some u) :
    ∃ A' c', Rd P ⟨dst, .load T x, ty, pos, af, g⟩ N E w (.slice A' (f u).length c') ∧ (f u).length ≤ c' ∧ c' ≤ 9223372036854775807 ∧ Hp w0 M w L O (Row d' sz' A' (f u) :: F) := by
  obtain ⟨a, cs, rfl, _, hd, hc⟩ := (H.fact _ hm).elem (by simpa using hs) hu
  obtain ⟨A', c', h1, h2, h3, h4⟩ := Stab.comps (hi := hC) hd
  exact ⟨A', c', rd_load_sc hp (hc j _ h1).now, h2, h3, H.add h4⟩
/-- A whole element. -/
theorem rd_load_epa {α : Type} {d : Rp α} {sz : Nat} [hT : AgT P T sz] (H : Hp w0 M w L O F) {A : Option Addr} {xs : List α} {i : Nat} {u : α}
    (hp : Ev N E x (ep A i sz 0)) (hm : Row d sz A xs ∈ F) (hs : Nat.blt 0 sz = true) (hu : xs[i]? = some u) :
    ∃ cs, Rd P ⟨dst, .load T x, ty, pos, af, g⟩ N E w (.agg cs.toArray) ∧ cs.length = sz ∧ Hp w0 M w L O ((fun w' => d w' u cs) :: F) := by
  obtain ⟨a, cs, rfl, hl, hd, hc⟩ := (H.fact _ hm).elem (by simpa using hs) hu
  refine ⟨cs, rd_load_ag hp hl fun j u hu => ?_, hl, H.add hd⟩
  have := (hc j u hu).now
  rwa [add_add, Nat.add_zero]
theorem rd_len {e sz by_ : Nat} [hT : SlTy P T e sz by_] {A : Option Addr} {n c : Nat} (hx : Ev N E x (.slice A n c)) : Rd P ⟨dst, .call { callee := .builtin .len, args := #[x], argTypes := #[T] }, ty, pos, af, g⟩ N E w (.int .i64 n) := by
  refine ⟨fun ds w' hw => ?_⟩
  simp [execOp, resolve, invoke, builtin, fr_eval hx, Builtin.len_, goInt, underlying, hT.und]
theorem rd_extract {vs : List Value} {i : Nat} (hx : Ev N E x (.tuple vs.toArray)) (hv : vs[i]? = some v) : Rd P ⟨dst, .extract x i, ty, pos, af, g⟩ N E w v := by
  refine ⟨fun ds w' hw => ?_⟩
  simp [execOp, fr_eval hx, Instr.extract, hv]
end
end Go.Proofs.YtiolpldihoghiaaDoor

namespace Go.Proofs.YtiolpldihoghiaaDoor
open Go.RowKit
set_option linter.unusedVariables false
set_option linter.unusedSimpArgs false

section
variable {P : Program} {N : Nat} {E : List (Nat × Value)} {ds : List Deferred} {ops : Array Oper} {rest : List Oper} {Q Q' : Exit → Act → World → Prop}
variable {d : Nat} {o : Op} {dst : Option Tmp} {ty : TypeId} {pos : String} {af : Array Edge} {w : World} {v : Value} {x y : Operand} {T : TypeId}

/-! ### The three walks, sealed: code; a region in the order of the text; a region that draws its order and only reads -/
structure WC (P : Program) (c : Code) (Q : Exit → Act → World → Prop) (N : Nat) (E : List (Nat × Value)) (ds : List Deferred) (w : World) : Prop where
  out : c.wp P Q (fr N E ds) w
structure WL (P : Program) (ops : Array Oper) (Q : Exit → Act → World → Prop) (l : List Oper) (N : Nat) (E : List (Nat × Value)) (ds : List Deferred) (w : World) : Prop where
  out : wpList P ops Q l (fr N E ds) w
structure WQ (P : Program) (ops : Array Oper) (Q1 : Act → Prop) (l : List Oper) (N : Nat) (E : List (Nat × Value)) (ds : List Deferred) (w : World) : Prop where
  out : wpQuiet P ops (fun w' => Below w.heap.size w w') Q1 l (fr N E ds)

/-! ### A region in the order of the text -/
theorem l_nil (h : Q .normal (fr N E ds) w) : WL P ops Q [] N E ds w := ⟨h⟩
theorem l_rd (hr : Rd P ⟨some d, o, ty, pos, af, none⟩ N E w v) (hd : Nat.blt d N = true) (h : WL P ops Q rest N ((d, v) :: E) ds w) :
    WL P ops Q (⟨some d, o, ty, pos, af, none⟩ :: rest) N E ds w := by
  refine ⟨wpList_plain rfl fun K hK => ?_⟩
  unfold Oper.wp
  rw [hr.run ds w (fun _ _ => rfl)]
  simp only [Oper.upon, fr_put v hd]
  exact hK _ _ h.out
theorem wanted_some {i : Nat} {b b' : Bool} {d' : Nat} (hd : ((ops[i]?).bind (·.dst)) = some d') (hN : Nat.blt d' N = true) (hv : get E d' = .bool b) :
    Region.wanted ⟨dst, o, ty, pos, af, some (i, b')⟩ (yielded ops (fr N E ds).tmps) = (b == b') := by
  have h1 : d' < N := by simpa using hN
  simp only [Region.wanted, yielded, hd, Option.bind_some, fr]
  rw [Array.getElem?_eq_getElem (by simpa using h1), Array.getElem_ofFn, hv]
  cases b <;> cases b' <;> rfl
/-- A guarded operation that is carried out; one that is passed over. -/
theorem l_rdg {i d' : Nat} {b : Bool} (hg : ((ops[i]?).bind (·.dst)) = some d') (hN : Nat.blt d' N = true) (hv : get E d' = .bool b)
    (hr : Rd P ⟨some d, o, ty, pos, af, some (i, b)⟩ N E w v) (hd : Nat.blt d N = true) (h : WL P ops Q rest N ((d, v) :: E) ds w) :
    WL P ops Q (⟨some d, o, ty, pos, af, some (i, b)⟩ :: rest) N E ds w := by
  refine ⟨wpList_step fun K hK => ?_⟩
  rw [if_pos (by rw [wanted_some hg hN hv]; simp)]
  unfold Oper.wp
  rw [hr.run ds w (fun _ _ => rfl)]
  simp only [Oper.upon, fr_put v hd]
  exact hK _ _ h.out
theorem l_skip {i d' : Nat} {b : Bool} (hg : ((ops[i]?).bind (·.dst)) = some d') (hN : Nat.blt d' N = true) (hv : get E d' = .bool (!b)) (hd : Nat.blt d N = true) (h : WL P ops Q rest N ((d, undef) :: E) ds w) :
    WL P ops Q (⟨some d, o, ty, pos, af, some (i, b)⟩ :: rest) N E ds w := by
  refine ⟨wpList_step fun K hK => ?_⟩
  rw [if_neg (by rw [wanted_some hg hN hv]; cases b <;> simp)]
  rw [fr_put undef hd]
  exact hK _ _ h.out
theorem l_dup {l : List Oper} {d : Nat} {v : Value} (h : get E d = v) (k : WL P ops Q l N ((d, v) :: E) ds w) : WL P ops Q l N E ds w := ⟨by rw [fr_dup h]; exact k.out⟩
/-- The guard's temporary is decided: both ways. -/
theorem l_split {p : Prop} [Decidable p] {i d' : Nat} {b : Bool} (hg : ((ops[i]?).bind (·.dst)) = some d') (hv : get E d' = .bool (decide p))
    (ht : p → WL P ops Q (⟨dst, o, ty, pos, af, some (i, b)⟩ :: rest) N ((d', .bool true) :: E) ds w)
    (hf : ¬ p → WL P ops Q (⟨dst, o, ty, pos, af, some (i, b)⟩ :: rest) N ((d', .bool false) :: E) ds w) :
    WL P ops Q (⟨dst, o, ty, pos, af, some (i, b)⟩ :: rest) N E ds w := by
  by_cases h : p
  · exact l_dup (by rw [hv]; simp [h]) (ht h)
  · exact l_dup (by rw [hv]; simp [h]) (hf h)
theorem l_splitB {c : Bool} {i d' : Nat} {b : Bool} (hg : ((ops[i]?).bind (·.dst)) = some d') (hv : get E d' = .bool c)
    (ht : c = true → WL P ops Q (⟨dst, o, ty, pos, af, some (i, b)⟩ :: rest) N ((d', .bool true) :: E) ds w)
    (hf : c = false → WL P ops Q (⟨dst, o, ty, pos, af, some (i, b)⟩ :: rest) N ((d', .bool false) :: E) ds w) :
    WL P ops Q (⟨dst, o, ty, pos, af, some (i, b)⟩ :: rest) N E ds w := by
  cases c
  · exact l_dup hv (hf rfl)
  · exact l_dup hv (ht rfl)

/-! ### A region that draws its order and only reads -/
variable {Q1 : Act → Prop}
theorem q_nil (h : Q1 (fr N E ds)) : WQ P ops Q1 [] N E ds w := ⟨h⟩
theorem q_rd (hr : Rd P ⟨some d, o, ty, pos, af, none⟩ N E w v) (hd : Nat.blt d N = true) (h : WQ P ops Q1 rest N ((d, v) :: E) ds w) :
    WQ P ops Q1 (⟨some d, o, ty, pos, af, none⟩ :: rest) N E ds w := by
  refine ⟨wpQuiet_step fun K hK => ?_⟩
  have hw : Region.wanted (⟨some d, o, ty, pos, af, none⟩ : Oper) (yielded ops (fr N E ds).tmps) = true := rfl
  rw [if_pos hw]
  refine ⟨v, fun w' hw' => ?_, ?_⟩
  · unfold Oper.quietAt; rw [hr.run ds w' hw'.block]; exact ⟨rfl, rfl⟩
  · rw [fr_put v hd]; exact hK _ h.out
theorem q_rdg {i d' : Nat} {b : Bool} (hg : ((ops[i]?).bind (·.dst)) = some d') (hN : Nat.blt d' N = true) (hv : get E d' = .bool b)
    (hr : Rd P ⟨some d, o, ty, pos, af, some (i, b)⟩ N E w v) (hd : Nat.blt d N = true) (h : WQ P ops Q1 rest N ((d, v) :: E) ds w) :
    WQ P ops Q1 (⟨some d, o, ty, pos, af, some (i, b)⟩ :: rest) N E ds w := by
  refine ⟨wpQuiet_step fun K hK => ?_⟩
  rw [if_pos (by rw [wanted_some hg hN hv]; simp)]
  refine ⟨v, fun w' hw' => ?_, ?_⟩
  · unfold Oper.quietAt; rw [hr.run ds w' hw'.block]; exact ⟨rfl, rfl⟩
  · rw [fr_put v hd]; exact hK _ h.out
theorem q_skip {i d' : Nat} {b : Bool} (hg : ((ops[i]?).bind (·.dst)) = some d') (hN : Nat.blt d' N = true) (hv : get E d' = .bool (!b)) (hd : Nat.blt d N = true)
    (h : WQ P ops Q1 rest N ((d, undef) :: E) ds w) : WQ P ops Q1 (⟨some d, o, ty, pos, af, some (i, b)⟩ :: rest) N E ds w := by
  refine ⟨wpQuiet_step fun K hK => ?_⟩
  rw [if_neg (by rw [wanted_some hg hN hv]; cases b <;> simp)]
  rw [fr_put undef hd]; exact hK _ h.out
theorem q_dup {l : List Oper} {d : Nat} {v : Value} (h : get E d = v) (k : WQ P ops Q1 l N ((d, v) :: E) ds w) : WQ P ops Q1 l N E ds w := ⟨by rw [fr_dup h]; exact k.out⟩
theorem q_split {p : Prop} [Decidable p] {i d' : Nat} {b : Bool} (hg : ((ops[i]?).bind (·.dst)) = some d') (hv : get E d' = .bool (decide p))
    (ht : p → WQ P ops Q1 (⟨dst, o, ty, pos, af, some (i, b)⟩ :: rest) N ((d', .bool true) :: E) ds w)
    (hf : ¬ p → WQ P ops Q1 (⟨dst, o, ty, pos, af, some (i, b)⟩ :: rest) N ((d', .bool false) :: E) ds w) :
    WQ P ops Q1 (⟨dst, o, ty, pos, af, some (i, b)⟩ :: rest) N E ds w := by
  by_cases h : p
  · exact q_dup (by rw [hv]; simp [h]) (ht h)
  · exact q_dup (by rw [hv]; simp [h]) (hf h)
theorem q_splitB {c : Bool} {i d' : Nat} {b : Bool} (hg : ((ops[i]?).bind (·.dst)) = some d') (hv : get E d' = .bool c)
    (ht : c = true → WQ P ops Q1 (⟨dst, o, ty, pos, af, some (i, b)⟩ :: rest) N ((d', .bool true) :: E) ds w)
    (hf : c = false → WQ P ops Q1 (⟨dst, o, ty, pos, af, some (i, b)⟩ :: rest) N ((d', .bool false) :: E) ds w) :
    WQ P ops Q1 (⟨dst, o, ty, pos, af, some (i, b)⟩ :: rest) N E ds w := by
  cases c
  · exact q_dup hv (hf rfl)
  · exact q_dup hv (ht rfl)

/-! ### Code -/
/-- What is owed at a code's end: the next code; a block's end. Sealed. -/
structure Th (P : Program) (c : Code) (Q : Exit → Act → World → Prop) (e : Exit) (a : Act) (w : World) : Prop where
  out : Exit.then (c.wp P Q) Q e a w
structure Bk (i : Nat) (Q : Exit → Act → World → Prop) (e : Exit) (a : Act) (w : World) : Prop where
  out : Exit.inBlock i Q e a w
structure BP (P : Program) (fn : Func) (R : Ending → World → Prop) (e : Exit) (a : Act) (w : World) : Prop where
  out : bodyPost P fn R e a w
theorem c_seq {c1 c2 : Code} (h : WC P c1 (Th P c2 Q) N E ds w) : WC P (.seq c1 c2) Q N E ds w := ⟨wp_seq (Code.wp_mono (fun _ _ _ h => h.out) h.out)⟩
theorem c_region {id : Nat} {l : List Oper} (h : WL P l.toArray Q l N E ds w) : WC P (Code.region id l.toArray false) Q N E ds w := ⟨wp_region_lit h.out⟩
theorem c_skip (h : Q .normal (fr N E ds) w) : WC P .skip Q N E ds w := ⟨wp_skip h⟩
theorem c_ret (h : Q .ret (fr N E ds) w) : WC P .ret Q N E ds w := ⟨wp_ret h⟩
theorem c_exit {i : Nat} (h : Q (.exit i) (fr N E ds) w) : WC P (.exit i) Q N E ds w := ⟨wp_exit h⟩
theorem c_block {i : Nat} {c : Code} (h : WC P c (Bk i Q) N E ds w) : WC P (.block i c) Q N E ds w := ⟨wp_block (Code.wp_mono (fun _ _ _ h => h.out) h.out)⟩
class Mixed (P : Program) : Prop where
  yes : P.follows .mixedOrders = true
variable {w0 : World} {M : Nat → Prop} {L : List Loc} {O : List Own} {F : List (World → Prop)}
/-- Behind the region: in every world in which nothing that was there has turned. -/
structure After (w0 : World) (M : Nat → Prop) (L : List Loc) (O : List Own) (F : List (World → Prop)) (Q : Exit → Act → World → Prop) (a : Act) : Prop where
  out : ∀ w', Hp w0 M w' L O F → Q .normal a w'
theorem c_draw [hm : Mixed P] (H : Hp w0 M w L O F) {id : Nat} {l : List Oper} (hB : Region.lexB .any l.toArray = true)
    (h : WQ P l.toArray (After w0 M L O F Q) l N E ds w) : WC P (Code.region id l.toArray true) Q N E ds w := by
  refine ⟨wp_region_quiet (C := fun w' => Below w.heap.size w w') hm.yes hB ⟨rfl, rfl, rfl, Nat.le_refl _, fun _ _ => rfl⟩ ?_⟩
  have h0 := h.out
  have h2 : wpQuiet P l.toArray (fun w' => Below w.heap.size w w') (fun a' => ∀ w', Below w.heap.size w w' → Q .normal a' w') l (fr N E ds) := by
    revert h0; generalize l.toArray = ops2; generalize fr N E ds = a; intro h
    have mono2 : ∀ (l : List Oper) (a : Act), wpQuiet P ops2 (fun w' => Below w.heap.size w w') (After w0 M L O F Q) l a →
        wpQuiet P ops2 (fun w' => Below w.heap.size w w') (fun a' => ∀ w', Below w.heap.size w w' → Q .normal a' w') l a := by
      intro l
      induction l with
      | nil => intro a h w' hw'; exact h.out w' (H.ext hw')
      | cons o l ih =>
        intro a h
        unfold wpQuiet at h ⊢
        split
        · rename_i hw; rw [if_pos hw] at h; exact Oper.quiet_mono (fun a' => ih a') h
        · rename_i hw; rw [if_neg hw] at h; exact ih _ h
    exact mono2 l a h
  simpa using h2
theorem q_end (h : ∀ w', Hp w0 M w' L O F → Q .normal (fr N E ds) w') : WQ P ops (After w0 M L O F Q) [] N E ds w := ⟨⟨h⟩⟩

theorem c_cond {p : Prop} [Decidable p] {A B : Code} (hx : Ev N E x (.bool (decide p))) (ht : p → WC P A Q N E ds w) (hf : ¬ p → WC P B Q N E ds w) : WC P (.cond x A B) Q N E ds w :=
  ⟨wp_cond_split (fr_eval hx) (fun h => (ht (of_decide_eq_true h)).out) (fun h => (hf (of_decide_eq_false h)).out)⟩
theorem c_condB {c : Bool} {A B : Code} (hx : Ev N E x (.bool c)) (ht : c = true → WC P A Q N E ds w) (hf : c = false → WC P B Q N E ds w) : WC P (.cond x A B) Q N E ds w :=
  ⟨wp_cond_split (fr_eval hx) (fun h => (ht h).out) (fun h => (hf h).out)⟩
theorem c_true {A B : Code} (hx : Ev N E x (.bool true)) (ht : WC P A Q N E ds w) : WC P (.cond x A B) Q N E ds w := ⟨wp_cond_true (fr_eval hx) ht.out⟩
theorem c_false {A B : Code} (hx : Ev N E x (.bool false)) (ht : WC P B Q N E ds w) : WC P (.cond x A B) Q N E ds w := ⟨wp_cond_false (fr_eval hx) ht.out⟩
theorem c_ncond {p : Prop} [Decidable p] {A B : Code} (hx : Ev N E x (.bool (!decide p))) (ht : ¬ p → WC P A Q N E ds w) (hf : p → WC P B Q N E ds w) : WC P (.cond x A B) Q N E ds w :=
  ⟨wp_cond_split (fr_eval hx) (fun h => (ht (by simpa using h)).out) (fun h => (hf (by simpa using h)).out)⟩
theorem c_ncondB {c : Bool} {A B : Code} (hx : Ev N E x (.bool (!c))) (ht : c = false → WC P A Q N E ds w) (hf : c = true → WC P B Q N E ds w) : WC P (.cond x A B) Q N E ds w :=
  ⟨wp_cond_split (fr_eval hx) (fun h => (ht (by simpa using h)).out) (fun h => (hf (by simpa using h)).out)⟩

theorem th_n {c : Code} (h : WC P c Q N E ds w) : Th P c Q .normal (fr N E ds) w := ⟨h.out⟩
theorem th_x {c : Code} {a : Act} {i : Nat} (h : Q (.exit i) a w) : Th P c Q (.exit i) a w := ⟨h⟩
theorem th_r {c : Code} {a : Act} (h : Q .ret a w) : Th P c Q .ret a w := ⟨h⟩
theorem bk_n {a : Act} {i : Nat} (h : Q .normal a w) : Bk i Q .normal a w := ⟨h⟩
theorem bk_r {a : Act} {i : Nat} (h : Q .ret a w) : Bk i Q .ret a w := ⟨h⟩
theorem bk_x {a : Act} {i : Nat} (h : Q .normal a w) : Bk i Q (.exit i) a w := ⟨by simpa [Exit.inBlock] using h⟩
theorem bk_o {a : Act} {i j : Nat} (hn : Nat.beq j i = false) (h : Q (.exit j) a w) : Bk i Q (.exit j) a w := by
  have : j ≠ i := by intro e; subst e; simp at hn
  exact ⟨by simpa [Exit.inBlock, this] using h⟩

/-! ### Calls -/
structure Ret (P : Program) (k : FuncId) (args : List Value) (w : World) (post : Value → World → Prop) : Prop where
  out : Calls P k args.toArray w fun e w' => ∃ v, e = .returned v ∧ Below w.heap.size w w' ∧ post v w'
theorem Ret.mono {k : FuncId} {args : List Value} {post post' : Value → World → Prop} (h : Ret P k args w post) (hp : ∀ v w', Below w.heap.size w w' → post v w' → post' v w') : Ret P k args w post' :=
  ⟨Calls.mono h.out fun e w' ⟨v, he, hb, hv⟩ => ⟨v, he, hb, hp v w' hb hv⟩⟩
structure RetPost (w0 : World) (post : Value → World → Prop) (e : Ending) (w' : World) : Prop where
  out : ∃ v, e = .returned v ∧ Below w0.heap.size w0 w' ∧ post v w'

/-- A body is entered. -/
theorem enter {k : FuncId} {fn : Func} {c : Code} {vs : List Value} {F : List (World → Prop)} {post : Value → World → Prop} (hf : P.funcs[k]? = some fn) (hb : fn.body = some c) (hN : fn.ntmps = N) (hl : Nat.ble vs.length N = true)
    (hF : ∀ f ∈ F, Stab w M f) (h : Hp w M w [] [] F → WC P c (BP P fn (RetPost w post)) N (numb 0 vs) [] w) : Ret P k vs w post := by
  have := Code.wp_mono (fun _ _ _ h => h.out) (h (Hp.start w M F hF)).out
  subst hN
  refine ⟨Calls.mono (calls_of_wp hf hb (R := RetPost w post) ?_) fun e w' hr => hr.out⟩
  have e := fr_start (N := fn.ntmps) (ds := []) vs hl
  rw [show ({ tmps := vs.toArray ++ Array.replicate (fn.ntmps - vs.toArray.size) undef, defers := [] } : Act) = fr fn.ntmps (numb 0 vs) [] from by rw [e]; rfl]
  exact this

theorem run_mapM_tmp (f : ResultVar → Sem Value) (tmps : Array Value) (hf : ∀ t, f (.tmp t) = pure (tmps.getD t undef)) : ∀ ts : List Tmp,
    ((ts.map ResultVar.tmp).mapM (m := Sem) f).run P w = .ok (ts.map fun t => tmps.getD t undef) w
  | [] => rfl
  | t :: ts => by simp only [List.map_cons, List.mapM_cons, hf, Sem.run_bind, Sem.run_pure, Result.andThen_ok, run_mapM_tmp f tmps hf ts]
theorem results_get {fn : Func} {ts : List Tmp} {vs : List Value} (hr : fn.results = (ts.map ResultVar.tmp).toArray) (hv : ts.map (fun t => (fr N E ds).tmps.getD t undef) = vs) :
    (results fn (fr N E ds).tmps).run P w = .ok (if h : vs.toArray.size = 1 then vs.toArray[0] else .tuple vs.toArray) w := by
  subst hv
  unfold results
  rw [hr]
  simp only [List.mapM_toArray, Sem.run_bind, Sem.run_map]
  rw [run_mapM_tmp _ (fr N E ds).tmps (fun _ => rfl)]
  simp only [Result.andThen_ok, Sem.run_pure]

/-- The body's end. -/
theorem ret1 {fn : Func} {t : Tmp} {post : Value → World → Prop} (H : Hp w0 M w L O F) (hr : fn.results = #[.tmp t]) (hN : Nat.blt t N = true) (hv : get E t = v) (hp : post v w) : BP P fn (RetPost w0 post) .ret (fr N E []) w := by
  have h1 : t < N := by simpa using hN
  refine ⟨⟨rfl, v, ?_, ⟨v, rfl, H.below, hp⟩⟩⟩
  rw [results_get (ts := [t]) (vs := [v]) (by rw [hr]; rfl) (by simp [fr, h1, hv])]
  rfl
theorem ret2 {fn : Func} {t t' : Tmp} {v' : Value} {post : Value → World → Prop} (H : Hp w0 M w L O F) (hr : fn.results = #[.tmp t, .tmp t']) (hN : (Nat.blt t N && Nat.blt t' N) = true) (hv : get E t = v) (hv' : get E t' = v')
    (hp : post (.tuple #[v, v']) w) : BP P fn (RetPost w0 post) .ret (fr N E []) w := by
  have h1 : t < N ∧ t' < N := by simpa using hN
  refine ⟨⟨rfl, .tuple #[v, v'], ?_, ⟨_, rfl, H.below, hp⟩⟩⟩
  rw [results_get (ts := [t, t']) (vs := [v, v']) (by rw [hr]; rfl) (by simp [fr, h1, hv, hv'])]
  rfl
theorem ret3 {fn : Func} {t t' t'' : Tmp} {v' v'' : Value} {post : Value → World → Prop} (H : Hp w0 M w L O F) (hr : fn.results = #[.tmp t, .tmp t', .tmp t'']) (hN : (Nat.blt t N && Nat.blt t' N && Nat.blt t'' N) = true)
    (hv : get E t = v) (hv' : get E t' = v') (hv'' : get E t'' = v'')
    (hp : post (.tuple #[v, v', v'']) w) : BP P fn (RetPost w0 post) .ret (fr N E []) w := by
  have h1 : (t < N ∧ t' < N) ∧ t'' < N := by simpa using hN
  refine ⟨⟨rfl, .tuple #[v, v', v''], ?_, ⟨_, rfl, H.below, hp⟩⟩⟩
  rw [results_get (ts := [t, t', t'']) (vs := [v, v', v'']) (by rw [hr]; rfl) (by simp [fr, h1, hv, hv', hv''])]
  rfl
theorem ret0 {fn : Func} {post : Value → World → Prop} (H : Hp w0 M w L O F) (hr : fn.results = #[]) (hp : post (.tuple #[]) w) : BP P fn (RetPost w0 post) .normal (fr N E []) w := by
  refine ⟨⟨rfl, .tuple #[], ?_, ⟨_, rfl, H.below, hp⟩⟩⟩
  rw [results_get (ts := []) (vs := []) (by rw [hr]; rfl) rfl]
  rfl

/-- The arguments of a call. -/
def Evs (N : Nat) (E : List (Nat × Value)) : List Operand → List Value → Prop
  | [], vs => vs = []
  | x :: xs, vs => ∃ v vs', vs = v :: vs' ∧ Ev N E x v ∧ Evs N E xs vs'
theorem evs_map {xs : List Operand} : ∀ {vs : List Value}, Evs N E xs vs → xs.map (fr N E ds).eval = vs := by
  induction xs with
  | nil => intro vs h; exact h.symm
  | cons x xs ih => intro vs h; obtain ⟨v, vs', rfl, h1, h2⟩ := h; simp [fr_eval h1, ih h2]
theorem evs0 : Evs N E [] [] := rfl
theorem evs1 {v : Value} {xs : List Operand} {vs : List Value} (h : Ev N E x v) (hs : Evs N E xs vs) : Evs N E (x :: xs) (v :: vs) := ⟨_, _, rfl, h, hs⟩

theorem run_call {k : FuncId} {fn : Func} {fv : Operand} {cap : Array Value} {xs : List Operand} {vs : List Value} {tys : Array TypeId} {g : Option (Nat × Bool)}
    (hf : P.funcs[k]? = some fn) (hb : fn.body.isNone = false) (hn : (fn.name == "runtime.NumGoroutine") = false) (hv : Ev N E fv (.func (.func k) #[] cap)) (ha : Evs N E xs vs) :
    (execOp (fr N E ds).eval ⟨dst, .call { callee := .value fv, args := xs.toArray, argTypes := tys }, ty, pos, af, g⟩).run P w = .ok (.enter k (vs.toArray ++ cap)) w := by
  have h1 : (xs.toArray.map (fr N E ds).eval) = vs.toArray := by rw [List.map_toArray, evs_map ha]
  have hn' : ¬ fn.name = "runtime.NumGoroutine" := by simpa using hn
  have hb' : ¬ fn.body = none := by cases h : fn.body <;> simp_all
  simp [execOp, resolve, fr_eval hv, Deferred.ofValue, invoke, callFunc, hf, hb', hn', h1]
end
end Go.Proofs.YtiolpldihoghiaaDoor

namespace Go.Proofs.YtiolpldihoghiaaDoor
open Go.RowKit
set_option linter.unusedVariables false
set_option linter.unusedSimpArgs false

/-- Function k of the program: what a call of it needs. -/
class FnT (P : Program) (k : FuncId) : Prop where
  is : ∃ fn, P.funcs[k]? = some fn ∧ fn.body.isNone = false ∧ (fn.name == "runtime.NumGoroutine") = false

section
variable {P : Program} {N : Nat} {E : List (Nat × Value)} {ds : List Deferred} {ops : Array Oper} {rest : List Oper} {Q Q' : Exit → Act → World → Prop}
variable {d : Nat} {o : Op} {dst : Option Tmp} {ty : TypeId} {pos : String} {af : Array Edge} {w : World} {v : Value} {x y : Operand} {T : TypeId}
variable {w0 : World} {M : Nat → Prop} {L : List Loc} {O : List Own} {F : List (World → Prop)}

/-! ### A step: one operation, whatever stands behind it -/
structure St (P : Program) (ops : Array Oper) (Q : Exit → Act → World → Prop) (o : Oper) (N : Nat) (E : List (Nat × Value)) (ds : List Deferred) (w : World) (K : List (Nat × Value) → World → Prop) : Prop where
  out : ∀ K' : Act → World → Prop, (∀ E' w', K E' w' → K' (fr N E' ds) w') → if Region.wanted o (yielded ops (fr N E ds).tmps) = true then o.wp P (fr N E ds) w K' Q else K' ((fr N E ds).put o.dst undef) w
theorem l_st {oo : Oper} (h : St P ops Q oo N E ds w fun E' w' => WL P ops Q rest N E' ds w') : WL P ops Q (oo :: rest) N E ds w :=
  ⟨wpList_step fun K hK => h.out K fun _ _ h' => hK _ _ h'.out⟩
variable {K : List (Nat × Value) → World → Prop}

/-! ### Calls -/
/-- fv: the function's value (a name, or a slot that holds a closure); cap: what it has captured. -/
theorem s_callv {k : FuncId} [hk : FnT P k] {post : Value → World → Prop} {fv : Operand} {cap : List Value} {xs : List Operand} {vs : List Value} {tys : Array TypeId} {g : Option (Nat × Bool)}
    (H : Hp w0 M w L O F) (hc : Ret P k (vs ++ cap) w post) (hv : Ev N E fv (.func (.func k) #[] cap.toArray)) (ha : Evs N E xs vs) (hd : Nat.blt d N = true)
    (hg : Region.wanted ⟨some d, .call { callee := .value fv, args := xs.toArray, argTypes := tys }, ty, pos, af, g⟩ (yielded ops (fr N E ds).tmps) = true)
    (h : ∀ v w', post v w' → Below w.heap.size w w' → Hp w0 M w' L O F → K ((d, v) :: E) w') :
    St P ops Q ⟨some d, .call { callee := .value fv, args := xs.toArray, argTypes := tys }, ty, pos, af, g⟩ N E ds w K := by
  obtain ⟨fn, h1, h2, h3⟩ := hk.is
  refine ⟨fun K' hK => ?_⟩
  rw [if_pos hg]
  unfold Oper.wp
  rw [run_call h1 h2 h3 hv ha]
  simp only [Oper.upon]
  have e : vs.toArray ++ cap.toArray = (vs ++ cap).toArray := by simp
  rw [e]
  refine Calls.mono hc.out ?_
  rintro _ w' ⟨v, rfl, hb, hp⟩
  simp only [fr_put v hd]
  exact hK _ _ (h v w' hp hb (H.ext hb))
theorem s_call {k : FuncId} [hk : FnT P k] {post : Value → World → Prop} {xs : List Operand} {vs : List Value} {tys : Array TypeId}
    (H : Hp w0 M w L O F) (hc : Ret P k vs w post) (ha : Evs N E xs vs) (hd : Nat.blt d N = true)
    (h : ∀ v w', post v w' → Below w.heap.size w w' → Hp w0 M w' L O F → K ((d, v) :: E) w') :
    St P ops Q ⟨some d, .call { callee := .value (.func k), args := xs.toArray, argTypes := tys }, ty, pos, af, none⟩ N E ds w K :=
  s_callv (cap := []) H (by simpa using hc) ⟨rfl, rfl⟩ ha hd rfl h
/-- A callee that hands back one value that is known. -/
theorem s_call1 {k : FuncId} [hk : FnT P k] {xs : List Operand} {vs : List Value} {tys : Array TypeId}
    (H : Hp w0 M w L O F) (hc : Ret P k vs w (fun u _ => u = v)) (ha : Evs N E xs vs) (hd : Nat.blt d N = true)
    (h : ∀ w', Below w.heap.size w w' → Hp w0 M w' L O F → K ((d, v) :: E) w') :
    St P ops Q ⟨some d, .call { callee := .value (.func k), args := xs.toArray, argTypes := tys }, ty, pos, af, none⟩ N E ds w K :=
  s_call H hc ha hd fun v' w' e hb H' => by subst e; exact h w' hb H'
/-- The same under a guard. -/
theorem s_callg {i d' : Nat} {b : Bool} {k : FuncId} [hk : FnT P k] {post : Value → World → Prop} {xs : List Operand} {vs : List Value} {tys : Array TypeId}
    (hg : ((ops[i]?).bind (·.dst)) = some d') (hN : Nat.blt d' N = true) (hv : get E d' = .bool b)
    (H : Hp w0 M w L O F) (hc : Ret P k vs w post) (ha : Evs N E xs vs) (hd : Nat.blt d N = true)
    (h : ∀ v w', post v w' → Below w.heap.size w w' → Hp w0 M w' L O F → K ((d, v) :: E) w') :
    St P ops Q ⟨some d, .call { callee := .value (.func k), args := xs.toArray, argTypes := tys }, ty, pos, af, some (i, b)⟩ N E ds w K :=
  s_callv (cap := []) H (by simpa using hc) ⟨rfl, rfl⟩ ha hd (by rw [wanted_some hg hN hv]; simp) h
theorem s_callg1 {i d' : Nat} {b : Bool} {k : FuncId} [hk : FnT P k] {xs : List Operand} {vs : List Value} {tys : Array TypeId}
    (hg : ((ops[i]?).bind (·.dst)) = some d') (hN : Nat.blt d' N = true) (hv : get E d' = .bool b)
    (H : Hp w0 M w L O F) (hc : Ret P k vs w (fun u _ => u = v)) (ha : Evs N E xs vs) (hd : Nat.blt d N = true)
    (h : ∀ w', Below w.heap.size w w' → Hp w0 M w' L O F → K ((d, v) :: E) w') :
    St P ops Q ⟨some d, .call { callee := .value (.func k), args := xs.toArray, argTypes := tys }, ty, pos, af, some (i, b)⟩ N E ds w K :=
  s_callg hg hN hv H hc ha hd fun v' w' e hb H' => by subst e; exact h w' hb H'
/-- In a region that draws: a callee that hands back one and the same value in every world that has w's blocks. -/
theorem q_callw {k : FuncId} [hk : FnT P k] {Q1 : Act → Prop} {xs : List Operand} {vs : List Value} {tys : Array TypeId} {g : Option (Nat × Bool)}
    (H : Hp w0 M w L O F) (hc : ∀ w', Hp w0 M w' L O F → Ret P k vs w' (fun u _ => u = v)) (ha : Evs N E xs vs) (hd : Nat.blt d N = true)
    (hg : Region.wanted ⟨some d, .call { callee := .value (.func k), args := xs.toArray, argTypes := tys }, ty, pos, af, g⟩ (yielded ops (fr N E ds).tmps) = true)
    (h : WQ P ops Q1 rest N ((d, v) :: E) ds w) :
    WQ P ops Q1 (⟨some d, .call { callee := .value (.func k), args := xs.toArray, argTypes := tys }, ty, pos, af, g⟩ :: rest) N E ds w := by
  obtain ⟨fn, h1, h2, h3⟩ := hk.is
  refine ⟨wpQuiet_step fun K hK => ?_⟩
  rw [if_pos hg]
  refine ⟨v, fun w' hw' => ?_, ?_⟩
  · unfold Oper.quietAt
    rw [run_call (cap := #[]) h1 h2 h3 ⟨rfl, rfl⟩ ha]
    refine ⟨rfl, ?_⟩
    rw [Array.append_empty]
    refine Calls.mono (hc w' (H.ext hw')).out ?_
    rintro _ w'' ⟨u, rfl, hb, rfl⟩
    exact ⟨rfl, hw'.trans (hb.mono hw'.size)⟩
  · rw [fr_put v hd]; exact hK _ h.out
theorem q_call1 {k : FuncId} [hk : FnT P k] {Q1 : Act → Prop} {xs : List Operand} {vs : List Value} {tys : Array TypeId}
    (H : Hp w0 M w L O F) (hc : ∀ w', Hp w0 M w' L O F → Ret P k vs w' (fun u _ => u = v)) (ha : Evs N E xs vs) (hd : Nat.blt d N = true)
    (h : WQ P ops Q1 rest N ((d, v) :: E) ds w) :
    WQ P ops Q1 (⟨some d, .call { callee := .value (.func k), args := xs.toArray, argTypes := tys }, ty, pos, af, none⟩ :: rest) N E ds w :=
  q_callw H hc ha hd rfl h
theorem q_callg1 {i d' : Nat} {b : Bool} {k : FuncId} [hk : FnT P k] {Q1 : Act → Prop} {xs : List Operand} {vs : List Value} {tys : Array TypeId}
    (hg : ((ops[i]?).bind (·.dst)) = some d') (hN : Nat.blt d' N = true) (hv : get E d' = .bool b)
    (H : Hp w0 M w L O F) (hc : ∀ w', Hp w0 M w' L O F → Ret P k vs w' (fun u _ => u = v)) (ha : Evs N E xs vs) (hd : Nat.blt d N = true)
    (h : WQ P ops Q1 rest N ((d, v) :: E) ds w) :
    WQ P ops Q1 (⟨some d, .call { callee := .value (.func k), args := xs.toArray, argTypes := tys }, ty, pos, af, some (i, b)⟩ :: rest) N E ds w :=
  q_callw H hc ha hd (by rw [wanted_some hg hN hv]; simp) h

/-- A plain step: the operation runs, and leaves a world. -/
theorem s_run {oo : Oper} {w' : World} {r : Next} (hg : oo.guard = none) (hr : (execOp (fr N E ds).eval oo).run P w = .ok r w')
    (h : (r = .skip ∧ oo.dst = none ∧ K E w') ∨ (∃ d v, r = .value v ∧ oo.dst = some d ∧ Nat.blt d N = true ∧ K ((d, v) :: E) w')) : St P ops Q oo N E ds w K := by
  refine ⟨fun K' hK => ?_⟩
  have hw : Region.wanted oo (yielded ops (fr N E ds).tmps) = true := by simp [Region.wanted, hg]
  rw [if_pos hw]
  unfold Oper.wp
  rw [hr]
  rcases h with ⟨rfl, hd, h⟩ | ⟨d, v, rfl, hd, hN, h⟩
  · simp only [Oper.upon, hd, Act.put]; exact hK _ _ h
  · simp only [Oper.upon, hd, fr_put v hN]; exact hK _ _ h
/-! ### New variables -/
theorem s_box {cs : List Value} (H : Hp w0 M w L O F) (hx : Ev N E x v) (hv : v.cells.toList = cs) (hd : Nat.blt d N = true)
    (h : ∀ w' b, Below w.heap.size w w' → Hp w0 M w' (⟨b, cs, T⟩ :: L) O F → K ((d, lp b 0) :: E) w') :
    St P ops Q ⟨some d, .box T x, ty, pos, af, none⟩ N E ds w K := by
  have e : v.cells = cs.toArray := by rw [← hv]
  have hr : (execOp (fr N E ds).eval ⟨some d, .box T x, ty, pos, af, none⟩).run P w = .ok (.value (lp w.heap.size 0)) (w.alloc (.cells cs.toArray T)) := by
    simp [execOp, fr_eval hx, Instr.box, newVar, newRow, e, lp]
  exact s_run rfl hr (.inr ⟨_, _, rfl, rfl, hd, h _ _ ((Below.refl _ _).alloc (Nat.le_refl _) _) (H.alloc cs T)⟩)
theorem s_boxa {cs : List Value} (H : Hp w0 M w L O F) (hx : Ev N E x (.agg cs.toArray)) (hd : Nat.blt d N = true)
    (h : ∀ w' b, Below w.heap.size w w' → Hp w0 M w' (⟨b, cs, T⟩ :: L) O F → K ((d, lp b 0) :: E) w') : St P ops Q ⟨some d, .box T x, ty, pos, af, none⟩ N E ds w K := s_box H hx rfl hd h
theorem s_boxi {k : IntKind} {a : Int} (H : Hp w0 M w L O F) (hx : Ev N E x (.int k a)) (hd : Nat.blt d N = true)
    (h : ∀ w' b, Below w.heap.size w w' → Hp w0 M w' (⟨b, [.int k a], T⟩ :: L) O F → K ((d, lp b 0) :: E) w') : St P ops Q ⟨some d, .box T x, ty, pos, af, none⟩ N E ds w K := s_box H hx rfl hd h
theorem s_boxs {A : Option Addr} {n c : Nat} (H : Hp w0 M w L O F) (hx : Ev N E x (.slice A n c)) (hd : Nat.blt d N = true)
    (h : ∀ w' b, Below w.heap.size w w' → Hp w0 M w' (⟨b, [.slice A n c], T⟩ :: L) O F → K ((d, lp b 0) :: E) w') : St P ops Q ⟨some d, .box T x, ty, pos, af, none⟩ N E ds w K := s_box H hx rfl hd h
theorem s_alloc {z : List Value} [hz : ZrT P T z] (H : Hp w0 M w L O F) (hd : Nat.blt d N = true)
    (h : ∀ w' b, Below w.heap.size w w' → Hp w0 M w' (⟨b, z, T⟩ :: L) O F → K ((d, lp b 0) :: E) w') :
    St P ops Q ⟨some d, .alloc T, ty, pos, af, none⟩ N E ds w K := by
  obtain ⟨i, u, h1, h2, h3⟩ := hz.inf
  have e : u.cells = z.toArray := by rw [← h3]
  have hr : (execOp (fr N E ds).eval ⟨some d, .alloc T, ty, pos, af, none⟩).run P w = .ok (.value (lp w.heap.size 0)) (w.alloc (.cells z.toArray T)) := by
    simp [execOp, Instr.alloc, zeroValue, typeInfo, h1, h2, newVar, newRow, e, lp]
  exact s_run rfl hr (.inr ⟨_, _, rfl, rfl, hd, h _ _ ((Below.refl _ _).alloc (Nat.le_refl _) _) (H.alloc z T)⟩)

/-! ### Stores into variables -/
theorem Hp.setCell (H : Hp w0 M w L O F) {i b j : Nat} {cs : List Value} {t : TypeId} (hl : L[i]? = some ⟨b, cs, t⟩) (v : Value) : Hp w0 M (w.setCell ⟨b, j, none⟩ v) (L.set i ⟨b, cs.set j v, t⟩) O F := by
  have hb := (H.loc _ (List.mem_of_getElem? hl)).2
  refine H.set hl (cs.set j v) (by simp [World.setCell]) ⟨rfl, rfl, rfl⟩ ?_ (fun k hk => Below.heap_setCell w ⟨b, j, none⟩ v k hk)
  have := heap_setCell_same w b j cs.toArray t v hb
  rw [this]
  simp
theorem Hp.setRow (H : Hp w0 M w L O F) {i b : Nat} {cs : List Value} {t : TypeId} (hl : L[i]? = some ⟨b, cs, t⟩) (vs : List Value) : Hp w0 M (w.setRow b vs.toArray) (L.set i ⟨b, vs, t⟩) O F := by
  have hb := (H.loc _ (List.mem_of_getElem? hl)).2
  refine H.set hl vs (size_setRow w b _) ⟨rfl, rfl, rfl⟩ ?_ (fun k hk => ?_)
  · have hlt := (Array.getElem?_eq_some_iff.1 hb).1
    simp only [World.setRow, Array.getElem?_modify, if_true, hb, Option.map_some]
  · simp only [World.setRow, Array.getElem?_modify]
    rw [if_neg (fun e => hk e.symm)]
/-- A store of one cell. -/
theorem s_store {i b j : Nat} {cs : List Value} {t : TypeId} [hT : ScT P T] (H : Hp w0 M w L O F) (hp : Ev N E x (lp b j)) (hl : L[i]? = some ⟨b, cs, t⟩) (hv : Ev N E y v) (h1 : v.oneCell' = true) (hj : Nat.blt j cs.length = true)
    (h : ∀ w', Hp w0 M w' (L.set i ⟨b, cs.set j v, t⟩) O F → K E w') :
    St P ops Q ⟨none, .store T x y, ty, pos, af, none⟩ N E ds w K := by
  have hb := (H.loc _ (List.mem_of_getElem? hl)).2
  have hj' : j < cs.length := by simpa using hj
  obtain ⟨inf, hi1, hi2⟩ := hT.inf
  have hc : w.cell? ⟨b, j, none⟩ = some (cs[j]) := by rw [cell_of_row w b j _ _ _ hb]; simp [hj']
  have hf : w.frozen? ⟨b, j, none⟩ = false := frozen_of_row w b j _ _ hb
  have hcells : v.cells = #[v] := by cases v <;> first | rfl | (simp [Value.oneCell'] at h1)
  have hr : (execOp (fr N E ds).eval ⟨none, .store T x y, ty, pos, af, none⟩).run P w = .ok .skip (w.setCell ⟨b, j, none⟩ v) := by
    have hst : (store ⟨b, j, none⟩ v Mode.plain).run P w = .ok () (w.setCell ⟨b, j, none⟩ v) := by rw [run_store P w _ v _ h1, hc]; simp [hf]
    have ha : (⟨b, j, none⟩ : Addr).add 0 = ⟨b, j, none⟩ := by simp [Addr.add]
    simp [execOp, fr_eval hp, fr_eval hv, lp, Instr.storeAt, Instr.sureAddr, storeVar, hcells, run_sizeOf_ hi1, hi2, storeCells, ha, hst]
  exact s_run rfl hr (.inl ⟨rfl, rfl, h _ (H.setCell hl v)⟩)
/-- A store of a whole struct. -/
theorem s_storea {sz : Nat} [hT : AgT P T sz] {i b : Nat} {cs vs : List Value} {t : TypeId} (H : Hp w0 M w L O F) (hp : Ev N E x (lp b 0)) (hl : L[i]? = some ⟨b, cs, t⟩) (hv : Ev N E y (.agg vs.toArray)) (h1 : vs.all (·.oneCell') = true)
    (hj : cs.length = sz) (hs : vs.length = sz)
    (h : ∀ w', Hp w0 M w' (L.set i ⟨b, vs, t⟩) O F → K E w') :
    St P ops Q ⟨none, .store T x y, ty, pos, af, none⟩ N E ds w K := by
  have hb := (H.loc _ (List.mem_of_getElem? hl)).2
  obtain ⟨inf, hi1, hi2⟩ := hT.inf
  have hst := run_storeVar_row (P := P) w b t T cs.toArray vs.toArray hb (by simp [hi1, hi2, hs]) (by simp; omega) (by simpa using h1)
  have hr : (execOp (fr N E ds).eval ⟨none, .store T x y, ty, pos, af, none⟩).run P w = .ok .skip (w.setRow b vs.toArray) := by
    simp [execOp, fr_eval hp, fr_eval hv, lp, Instr.storeAt, Instr.sureAddr, hst]
  exact s_run rfl hr (.inl ⟨rfl, rfl, h _ (H.setRow hl vs)⟩)
end
end Go.Proofs.YtiolpldihoghiaaDoor

namespace Go.Proofs.YtiolpldihoghiaaDoor
open Go.RowKit
set_option linter.unusedVariables false
set_option linter.unusedSimpArgs false
section
variable {P : Program}
theorem slTy {t e sz by_ : Nat} (h : P.underlying t = some (.slice e)) (hi : ((P.info? e).bind fun i => i.zero.map fun z => (i.size, i.bytes, z.cells.size)) = some (sz, by_, sz)) (hp : 0 < sz ∧ 0 < by_) : SlTy P t e sz by_ := by
  obtain ⟨i, h1, h2⟩ := Option.bind_eq_some_iff.1 hi
  obtain ⟨z, h3, h4⟩ := Option.map_eq_some_iff.1 h2
  simp only [Prod.mk.injEq] at h4
  exact ⟨h, ⟨i, h1, h4.1, h4.2.1, z, h3, h4.2.2⟩, hp⟩
theorem agT {T sz : Nat} (h : (P.underlying T).map isAggB = some true) (hi : (P.info? T).map (·.size) = some sz) : AgT P T sz := by
  obtain ⟨d, h1, h2⟩ := Option.map_eq_some_iff.1 h
  obtain ⟨i, h3, h4⟩ := Option.map_eq_some_iff.1 hi
  exact ⟨⟨d, h1, h2⟩, ⟨i, h3, h4⟩⟩
theorem scT {T : Nat} (h : (P.underlying T).map isAggB = some false) (hi : (P.info? T).map (·.size) = some 1) : ScT P T := by
  obtain ⟨d, h1, h2⟩ := Option.map_eq_some_iff.1 h
  obtain ⟨i, h3, h4⟩ := Option.map_eq_some_iff.1 hi
  exact ⟨⟨d, h1, h2⟩, ⟨i, h3, h4⟩⟩
def fdOf (P : Program) (T f : Nat) : Option (Nat × TypeId) :=
  match P.underlying T with
  | some (.struct fs) => fs[f]?.map fun fd => (fd.offset, fd.type)
  | _ => none
theorem fdT {T f off : Nat} {u : TypeId} (h : fdOf P T f = some (off, u)) (hi : (P.info? u).map (fun i => decide (i.size ≠ 0)) = some true) : FdT P T f off := by
  unfold fdOf at h
  split at h
  · rename_i fs hu
    obtain ⟨fd, h1, h2⟩ := Option.map_eq_some_iff.1 h
    simp only [Prod.mk.injEq] at h2
    obtain ⟨i, h3, h4⟩ := Option.map_eq_some_iff.1 hi
    exact ⟨⟨fs, fd, hu, h1, h2.1, i, by rw [h2.2]; exact h3, by simpa using h4⟩⟩
  · cases h
theorem zrT {T : Nat} {z : List Value} (h : ((P.info? T).bind (·.zero)).map (·.cells.toList) = some z) : ZrT P T z := by
  obtain ⟨v, h1, h2⟩ := Option.map_eq_some_iff.1 h
  obtain ⟨i, h3, h4⟩ := Option.bind_eq_some_iff.1 h1
  exact ⟨⟨i, v, h3, h4, h2⟩⟩
theorem fnT {k : Nat} {fn : Func} (h : P.funcs[k]? = some fn) (hb : (!fn.body.isNone && !(fn.name == "runtime.NumGoroutine")) = true) : FnT P k := by
  simp only [Bool.and_eq_true, Bool.not_eq_true'] at hb
  exact ⟨⟨fn, h, hb.1, hb.2⟩⟩
end
end Go.Proofs.YtiolpldihoghiaaDoor

namespace Go.Proofs.YtiolpldihoghiaaDoor
open Go.RowKit
set_option linter.unusedVariables false
set_option linter.unusedSimpArgs false

section
variable {P : Program} {N : Nat} {E : List (Nat × Value)} {ds : List Deferred} {ops : Array Oper} {rest : List Oper} {Q Q' : Exit → Act → World → Prop}
variable {d : Nat} {o : Op} {dst : Option Tmp} {ty : TypeId} {pos : String} {af : Array Edge} {g : Option (Nat × Bool)} {w : World} {v : Value} {x y z : Operand} {T u : TypeId} {a b : Int}
variable {w0 : World} {M : Nat → Prop} {L : List Loc} {O : List Own} {F : List (World → Prop)}

/-! ### Numbers of kind int64, with their bounds -/
theorem rd_add64 (hx : Ev N E x (.int .i64 a)) (hy : Ev N E y (.int .i64 b)) (h : -9223372036854775808 ≤ a + b ∧ a + b ≤ 9223372036854775807) : Rd P ⟨dst, .binOp .add T x y u, ty, pos, af, g⟩ N E w (.int .i64 (a + b)) :=
  rd_add hx hy (IntWalk.i64_in _ h)
theorem rd_sub64 (hx : Ev N E x (.int .i64 a)) (hy : Ev N E y (.int .i64 b)) (h : -9223372036854775808 ≤ a - b ∧ a - b ≤ 9223372036854775807) : Rd P ⟨dst, .binOp .sub T x y u, ty, pos, af, g⟩ N E w (.int .i64 (a - b)) :=
  rd_sub hx hy (IntWalk.i64_in _ h)
theorem rd_mul64 (hx : Ev N E x (.int .i64 a)) (hy : Ev N E y (.int .i64 b)) (h : -9223372036854775808 ≤ a * b ∧ a * b ≤ 9223372036854775807) : Rd P ⟨dst, .binOp .mul T x y u, ty, pos, af, g⟩ N E w (.int .i64 (a * b)) :=
  rd_mul hx hy (IntWalk.i64_in _ h)
theorem rd_quo64 (hx : Ev N E x (.int .i64 a)) (hy : Ev N E y (.int .i64 b)) (h : 0 ≤ a ∧ a ≤ 9223372036854775807 ∧ 1 ≤ b) : Rd P ⟨dst, .binOp .quo T x y u, ty, pos, af, g⟩ N E w (.int .i64 (a / b)) := by
  refine rd_quo hx hy (by omega) ?_
  rw [Int.tdiv_eq_ediv_of_nonneg h.1]
  have h1 : 0 ≤ a / b := Int.ediv_nonneg h.1 (by omega)
  have h2 : a / b ≤ a := Int.ediv_le_self _ h.1
  exact IntWalk.i64_in _ ⟨by omega, by omega⟩
theorem rd_rem64 (hx : Ev N E x (.int .i64 a)) (hy : Ev N E y (.int .i64 b)) (h : 0 ≤ a ∧ 1 ≤ b) : Rd P ⟨dst, .binOp .rem T x y u, ty, pos, af, g⟩ N E w (.int .i64 (a % b)) :=
  rd_rem hx hy (by omega) (Int.tmod_eq_emod_of_nonneg h.1)

/-! ### Which operation it is (each a sieve: it fails at once at another) -/
theorem g_move (h : Rd P ⟨dst, .move x, ty, pos, af, g⟩ N E w v) : Rd P ⟨dst, .move x, ty, pos, af, g⟩ N E w v := h
theorem g_assign (h : Rd P ⟨dst, .assign x, ty, pos, af, g⟩ N E w v) : Rd P ⟨dst, .assign x, ty, pos, af, g⟩ N E w v := h
theorem g_load (h : Rd P ⟨dst, .load T x, ty, pos, af, g⟩ N E w v) : Rd P ⟨dst, .load T x, ty, pos, af, g⟩ N E w v := h
theorem g_bin {k : BinOp} (h : Rd P ⟨dst, .binOp k T x y u, ty, pos, af, g⟩ N E w v) : Rd P ⟨dst, .binOp k T x y u, ty, pos, af, g⟩ N E w v := h
theorem g_pick (h : Rd P ⟨dst, .pick x y z, ty, pos, af, g⟩ N E w v) : Rd P ⟨dst, .pick x y z, ty, pos, af, g⟩ N E w v := h
theorem g_fieldAddr {f : Nat} (h : Rd P ⟨dst, .fieldAddr T x f, ty, pos, af, g⟩ N E w v) : Rd P ⟨dst, .fieldAddr T x f, ty, pos, af, g⟩ N E w v := h
theorem g_indexAddr (h : Rd P ⟨dst, .indexAddr T x y, ty, pos, af, g⟩ N E w v) : Rd P ⟨dst, .indexAddr T x y, ty, pos, af, g⟩ N E w v := h
theorem g_len (h : Rd P ⟨dst, .call { callee := .builtin .len, args := #[x], argTypes := #[T] }, ty, pos, af, g⟩ N E w v) : Rd P ⟨dst, .call { callee := .builtin .len, args := #[x], argTypes := #[T] }, ty, pos, af, g⟩ N E w v := h
theorem g_not (h : Rd P ⟨dst, .unOp .not T x, ty, pos, af, g⟩ N E w v) : Rd P ⟨dst, .unOp .not T x, ty, pos, af, g⟩ N E w v := h
theorem g_extract {i : Nat} (h : Rd P ⟨dst, .extract x i, ty, pos, af, g⟩ N E w v) : Rd P ⟨dst, .extract x i, ty, pos, af, g⟩ N E w v := h
theorem g_nil (h : Rd P ⟨dst, .nilCheck x, ty, pos, af, g⟩ N E w v) : Rd P ⟨dst, .nilCheck x, ty, pos, af, g⟩ N E w v := h

theorem m0 {f : World → Prop} {F : List (World → Prop)} : f ∈ f :: F := .head _
theorem m1 {f g1 : World → Prop} {F : List (World → Prop)} : f ∈ g1 :: f :: F := .tail _ (.head _)
theorem m2 {f g1 g2 : World → Prop} {F : List (World → Prop)} : f ∈ g1 :: g2 :: f :: F := .tail _ m1
theorem m3 {f g1 g2 g3 : World → Prop} {F : List (World → Prop)} : f ∈ g1 :: g2 :: g3 :: f :: F := .tail _ m2
theorem m4 {f g1 g2 g3 g4 : World → Prop} {F : List (World → Prop)} : f ∈ g1 :: g2 :: g3 :: g4 :: f :: F := .tail _ m3
theorem m5 {f g1 g2 g3 g4 g5 : World → Prop} {F : List (World → Prop)} : f ∈ g1 :: g2 :: g3 :: g4 :: g5 :: f :: F := .tail _ m4
theorem m6 {f g1 g2 g3 g4 g5 g6 : World → Prop} {F : List (World → Prop)} : f ∈ g1 :: g2 :: g3 :: g4 :: g5 :: g6 :: f :: F := .tail _ m5
theorem m7 {f g1 g2 g3 g4 g5 g6 g7 : World → Prop} {F : List (World → Prop)} : f ∈ g1 :: g2 :: g3 :: g4 :: g5 :: g6 :: g7 :: f :: F := .tail _ m6
/-- A fact that is among those that are known. -/
theorem mem_auto {f : World → Prop} (h : f ∈ F := by first | exact m0 | exact m1 | exact m2 | exact m3 | exact m4 | exact m5 | exact m6 | exact m7 | exact .tail _ m7 | exact .tail _ (.tail _ m7) | exact .tail _ (.tail _ (.tail _ m7))) : f ∈ F := h
theorem iv {k : IntKind} (h : a = b) : Value.int k a = Value.int k b := by rw [h]
theorem bv {p q : Bool} (h : p = q) : Value.bool p = Value.bool q := by rw [h]

theorem rd_auto {o : Oper} (hr : Rd P o N E w v := by
      first
      | (apply g_move; first | exact rd_move (v := .int _ _) ⟨rfl, rfl⟩ | exact rd_move (v := .bool _) ⟨rfl, rfl⟩ | exact rd_move (v := .slice _ _ _) ⟨rfl, rfl⟩ | exact rd_move (v := .agg _) ⟨rfl, rfl⟩ | exact rd_move (v := .func _ _ _) ⟨rfl, rfl⟩ | exact rd_move ⟨rfl, rfl⟩)
      | (apply g_assign; first | exact rd_assign (v := .int _ _) ⟨rfl, rfl⟩ | exact rd_assign (v := .bool _) ⟨rfl, rfl⟩ | exact rd_assign (v := .slice _ _ _) ⟨rfl, rfl⟩ | exact rd_assign (v := .agg _) ⟨rfl, rfl⟩ | exact rd_assign (v := .func _ _ _) ⟨rfl, rfl⟩ | exact rd_assign ⟨rfl, rfl⟩)
      | (apply g_load; first
        | exact rd_load_lp (i := 0) (by assumption) ⟨rfl, rfl⟩ rfl rfl | exact rd_load_lp (i := 1) (by assumption) ⟨rfl, rfl⟩ rfl rfl | exact rd_load_lp (i := 2) (by assumption) ⟨rfl, rfl⟩ rfl rfl
        | exact rd_load_ep (by assumption) ⟨rfl, rfl⟩ mem_auto rfl (List.getElem?_eq_getElem (by omega))
        | exact rd_load_lp (i := 3) (by assumption) ⟨rfl, rfl⟩ rfl rfl | exact rd_load_lp (i := 4) (by assumption) ⟨rfl, rfl⟩ rfl rfl | exact rd_load_lp (i := 5) (by assumption) ⟨rfl, rfl⟩ rfl rfl
        | exact rd_load_lp (i := 6) (by assumption) ⟨rfl, rfl⟩ rfl rfl | exact rd_load_lp (i := 7) (by assumption) ⟨rfl, rfl⟩ rfl rfl
        | exact rd_load_lp_ag (i := 0) (by assumption) ⟨rfl, rfl⟩ rfl rfl | exact rd_load_lp_ag (i := 1) (by assumption) ⟨rfl, rfl⟩ rfl rfl | exact rd_load_lp_ag (i := 2) (by assumption) ⟨rfl, rfl⟩ rfl rfl
        | exact rd_load_lp_ag (i := 3) (by assumption) ⟨rfl, rfl⟩ rfl rfl | exact rd_load_lp_ag (i := 4) (by assumption) ⟨rfl, rfl⟩ rfl rfl | exact rd_load_lp_ag (i := 5) (by assumption) ⟨rfl, rfl⟩ rfl rfl)
      | (apply g_bin; first
        | exact rd_lss ⟨rfl, rfl⟩ ⟨rfl, rfl⟩ | exact rd_add64 ⟨rfl, rfl⟩ ⟨rfl, rfl⟩ (by omega) | exact rd_neq ⟨rfl, rfl⟩ ⟨rfl, rfl⟩ | exact rd_eql ⟨rfl, rfl⟩ ⟨rfl, rfl⟩
        | exact rd_gtr ⟨rfl, rfl⟩ ⟨rfl, rfl⟩ | exact rd_geq ⟨rfl, rfl⟩ ⟨rfl, rfl⟩ | exact rd_leq ⟨rfl, rfl⟩ ⟨rfl, rfl⟩
        | exact rd_sub64 ⟨rfl, rfl⟩ ⟨rfl, rfl⟩ (by omega) | exact rd_quo64 ⟨rfl, rfl⟩ ⟨rfl, rfl⟩ (by omega) | exact rd_rem64 ⟨rfl, rfl⟩ ⟨rfl, rfl⟩ (by omega) | exact rd_mul64 ⟨rfl, rfl⟩ ⟨rfl, rfl⟩ (by omega))
      | (apply g_pick; first | exact rd_pick_t (v := .bool _) ⟨rfl, rfl⟩ ⟨rfl, rfl⟩ | exact rd_pick_f (v := .bool _) ⟨rfl, rfl⟩ ⟨rfl, rfl⟩)
      | (apply g_fieldAddr; first | exact rd_field_lp ⟨rfl, rfl⟩ | exact rd_field_ep (by assumption) ⟨rfl, rfl⟩)
      | (apply g_indexAddr; exact rd_index (by assumption) ⟨rfl, rfl⟩ mem_auto ⟨rfl, rfl⟩ (by first | rfl | exact (Int.toNat_of_nonneg (by omega)).symm) (by omega))
      | (apply g_len; exact rd_len ⟨rfl, rfl⟩)
      | (apply g_not; exact rd_not ⟨rfl, rfl⟩)
      | (apply g_extract; first | exact rd_extract (v := .int _ _) ⟨rfl, rfl⟩ rfl | exact rd_extract (v := .bool _) ⟨rfl, rfl⟩ rfl | exact rd_extract (v := .slice _ _ _) ⟨rfl, rfl⟩ rfl | exact rd_extract ⟨rfl, rfl⟩ rfl)
      | (apply g_nil; exact rd_nilCheck ⟨rfl, rfl⟩)) : Rd P o N E w v := hr

/-! ### Any read, in each of the four places -/
theorem l_a (h : WL P ops Q rest N ((d, v) :: E) ds w) (hr : Rd P ⟨some d, o, ty, pos, af, none⟩ N E w v := by exact rd_auto) (hd : Nat.blt d N = true := by rfl) : WL P ops Q (⟨some d, o, ty, pos, af, none⟩ :: rest) N E ds w := l_rd hr hd h
theorem q_a {Q1 : Act → Prop} (h : WQ P ops Q1 rest N ((d, v) :: E) ds w) (hr : Rd P ⟨some d, o, ty, pos, af, none⟩ N E w v := by exact rd_auto) (hd : Nat.blt d N = true := by rfl) : WQ P ops Q1 (⟨some d, o, ty, pos, af, none⟩ :: rest) N E ds w := q_rd hr hd h
theorem l_g {i d' : Nat} {b : Bool} (h : WL P ops Q rest N ((d, v) :: E) ds w) (hg : ((ops[i]?).bind (·.dst)) = some d' := by rfl) (hv : get E d' = .bool b := by rfl) (hr : Rd P ⟨some d, o, ty, pos, af, some (i, b)⟩ N E w v := by exact rd_auto) (hN : Nat.blt d' N = true := by rfl) (hd : Nat.blt d N = true := by rfl) :
    WL P ops Q (⟨some d, o, ty, pos, af, some (i, b)⟩ :: rest) N E ds w := l_rdg hg hN hv hr hd h
theorem q_g {Q1 : Act → Prop} {i d' : Nat} {b : Bool} (h : WQ P ops Q1 rest N ((d, v) :: E) ds w) (hg : ((ops[i]?).bind (·.dst)) = some d' := by rfl) (hv : get E d' = .bool b := by rfl) (hr : Rd P ⟨some d, o, ty, pos, af, some (i, b)⟩ N E w v := by exact rd_auto) (hN : Nat.blt d' N = true := by rfl) (hd : Nat.blt d N = true := by rfl) :
    WQ P ops Q1 (⟨some d, o, ty, pos, af, some (i, b)⟩ :: rest) N E ds w := q_rdg hg hN hv hr hd h
theorem l_s {i d' : Nat} {b : Bool} (h : WL P ops Q rest N ((d, undef) :: E) ds w) (hg : ((ops[i]?).bind (·.dst)) = some d' := by rfl) (hv : get E d' = .bool (!b) := by rfl) (hN : Nat.blt d' N = true := by rfl) (hd : Nat.blt d N = true := by rfl) :
    WL P ops Q (⟨some d, o, ty, pos, af, some (i, b)⟩ :: rest) N E ds w := l_skip hg hN hv hd h
theorem q_s {Q1 : Act → Prop} {i d' : Nat} {b : Bool} (h : WQ P ops Q1 rest N ((d, undef) :: E) ds w) (hg : ((ops[i]?).bind (·.dst)) = some d' := by rfl) (hv : get E d' = .bool (!b) := by rfl) (hN : Nat.blt d' N = true := by rfl) (hd : Nat.blt d N = true := by rfl) :
    WQ P ops Q1 (⟨some d, o, ty, pos, af, some (i, b)⟩ :: rest) N E ds w := q_skip hg hN hv hd h
end
end Go.Proofs.YtiolpldihoghiaaDoor

namespace Go.Proofs.YtiolpldihoghiaaDoor
open Go.RowKit
set_option linter.unusedVariables false
set_option linter.unusedSimpArgs false

section
variable {P : Program} {N : Nat} {E : List (Nat × Value)} {ds : List Deferred} {ops : Array Oper} {rest : List Oper} {Q Q' : Exit → Act → World → Prop}
variable {d : Nat} {o : Op} {dst : Option Tmp} {ty : TypeId} {pos : String} {af : Array Edge} {g : Option (Nat × Bool)} {w w' : World} {v v' : Value} {x y z : Operand} {T u : TypeId} {a b : Int}
variable {w0 : World} {M : Nat → Prop} {L : List Loc} {O : List Own} {F : List (World → Prop)} {K : List (Nat × Value) → World → Prop}

/-! ### A loop: ks: the slots that live on; J: what holds of them, and of the world, with a number that falls -/
structure Lp (ks : List Nat) (J : Nat → List Value → World → Prop) (n : Nat) (N : Nat) (ds : List Deferred) (Q : Exit → Act → World → Prop) (e : Exit) (a : Act) (w : World) : Prop where
  out : match e with
    | .normal => ∃ n' E', n' < n ∧ a = fr N E' ds ∧ J n' (ks.map (get E')) w
    | e => Q e a w
theorem lp_n {ks : List Nat} {J : Nat → List Value → World → Prop} {n n' : Nat} (hn : n' < n) (h : J n' (ks.map (get E)) w) : Lp ks J n N ds Q .normal (fr N E ds) w := ⟨⟨n', E, hn, rfl, h⟩⟩
theorem lp_x {ks : List Nat} {J : Nat → List Value → World → Prop} {n i : Nat} {a : Act} (h : Q (.exit i) a w) : Lp ks J n N ds Q (.exit i) a w := ⟨h⟩
theorem lp_r {ks : List Nat} {J : Nat → List Value → World → Prop} {n : Nat} {a : Act} (h : Q .ret a w) : Lp ks J n N ds Q .ret a w := ⟨h⟩
theorem fr_dups : ∀ (ks : List Nat) (E : List (Nat × Value)), fr N E ds = fr N (ks.zip (ks.map (get E)) ++ E) ds := by
  intro ks
  induction ks with
  | nil => intro E; rfl
  | cons k ks ih =>
    intro E
    rw [ih E]
    have hg : get (ks.zip (ks.map (get E)) ++ E) k = get E k := by
      clear ih
      induction ks with
      | nil => rfl
      | cons j ks ih2 =>
        by_cases e : k = j
        · subst e; simp [get]
        · simp only [List.map_cons, List.zip_cons_cons, List.cons_append]; rw [get_cons_ne _ e]; exact ih2
    exact fr_dup hg
theorem c_loop {c : Code} (ks : List Nat) (J : Nat → List Value → World → Prop) (n : Nat) (h0 : J n (ks.map (get E)) w)
    (round : ∀ n vs E0 w, J n vs w → WC P c (Lp ks J n N ds Q) N (ks.zip vs ++ E0) ds w) : WC P (.loop c) Q N E ds w := by
  refine ⟨wp_loop_ghost (fun n a w => ∃ E, a = fr N E ds ∧ J n (ks.map (get E)) w) n ⟨E, rfl, h0⟩ ?_⟩
  rintro n a w ⟨E1, rfl, hJ⟩
  rw [fr_dups ks E1]
  refine Code.wp_mono ?_ (round n _ E1 w hJ).out
  intro e a' w' hq
  have hq := hq.out
  cases e with
  | normal => obtain ⟨n', E', hn, rfl, hJ'⟩ := hq; exact ⟨n', hn, E', rfl, hJ'⟩
  | exit _ => exact hq
  | goto _ => exact hq
  | ret => exact hq
  | panic _ => exact hq
  | outgrown => exact hq

/-! The same; the slots 'keep' are not written in the loop. -/
structure Lk (ks keep : List Nat) (kv : List Value) (J : Nat → List Value → World → Prop) (n : Nat) (N : Nat) (ds : List Deferred) (Q : Exit → Act → World → Prop) (e : Exit) (a : Act) (w : World) : Prop where
  out : match e with
    | .normal => ∃ n' E', n' < n ∧ a = fr N E' ds ∧ J n' (ks.map (get E')) w ∧ keep.map (get E') = kv
    | e => Q e a w
theorem lk_n {ks keep : List Nat} {kv : List Value} {J : Nat → List Value → World → Prop} {n n' : Nat} (hk : keep.map (get E) = kv) (hn : n' < n) (h : J n' (ks.map (get E)) w) : Lk ks keep kv J n N ds Q .normal (fr N E ds) w := ⟨⟨n', E, hn, rfl, h, hk⟩⟩
theorem lk_x {ks keep : List Nat} {kv : List Value} {J : Nat → List Value → World → Prop} {n i : Nat} {a : Act} (h : Q (.exit i) a w) : Lk ks keep kv J n N ds Q (.exit i) a w := ⟨h⟩
theorem lk_r {ks keep : List Nat} {kv : List Value} {J : Nat → List Value → World → Prop} {n : Nat} {a : Act} (h : Q .ret a w) : Lk ks keep kv J n N ds Q .ret a w := ⟨h⟩
theorem c_loopk {c : Code} (ks keep : List Nat) (J : Nat → List Value → World → Prop) (n : Nat) (kv : List Value) (hk : keep.map (get E) = kv) (h0 : J n (ks.map (get E)) w)
    (round : ∀ n vs E0 w, J n vs w → WC P c (Lk ks keep kv J n N ds Q) N (ks.zip vs ++ (keep.zip kv ++ E0)) ds w) : WC P (.loop c) Q N E ds w := by
  refine ⟨wp_loop_ghost (fun n a w => ∃ E, a = fr N E ds ∧ J n (ks.map (get E)) w ∧ keep.map (get E) = kv) n ⟨E, rfl, h0, hk⟩ ?_⟩
  rintro n a w ⟨E1, rfl, hJ, hk1⟩
  rw [fr_dups keep E1, fr_dups ks _, hk1]
  have e : ks.map (get (keep.zip kv ++ E1)) = ks.map (get E1) := by
    apply List.map_congr_left
    intro k _
    subst hk1
    clear hk hJ round
    induction keep with
    | nil => rfl
    | cons j ks ih =>
      by_cases e : k = j
      · subst e; simp [get]
      · simp only [List.map_cons, List.zip_cons_cons, List.cons_append]; rw [get_cons_ne _ e]; exact ih
  rw [e]
  refine Code.wp_mono ?_ (round n _ E1 w hJ).out
  intro e a' w' hq
  have hq := hq.out
  cases e with
  | normal => obtain ⟨n', E', hn, rfl, hJ', hk'⟩ := hq; exact ⟨n', hn, E', rfl, hJ', hk'⟩
  | exit _ => exact hq
  | goto _ => exact hq
  | ret => exact hq
  | panic _ => exact hq
  | outgrown => exact hq

/-! ### Rows of one's own -/
theorem Hp.own_nil (H : Hp w0 M w L O F) (e sz : Nat) : Hp w0 M w L (⟨.slice none 0 0, e, sz, 0, []⟩ :: O) F := by
  refine ⟨H.below, H.loc, ?_, H.nd, ?_, ?_, ?_⟩
  · intro o ho
    rcases List.mem_cons.1 ho with rfl | ho
    · exact World.ownsRow_nil _ _ _ _
    · exact H.own o ho
  · exact List.pairwise_cons.2 ⟨fun o _ => .inl rfl, H.od⟩
  · intro l hl o ho
    rcases List.mem_cons.1 ho with rfl | ho
    · simp [Value.ownBlock]
    · exact H.lo l hl o ho
  · intro f hf
    refine (H.fact f hf).mono ?_
    rintro b (h | h | ⟨o, ho, hb⟩)
    · exact .inl h
    · exact .inr (.inl h)
    · rcases List.mem_cons.1 ho with rfl | ho
      · simp [Value.ownBlock] at hb
      · exact .inr (.inr ⟨o, ho, hb⟩)

/-- A row of one's own has turned: it lies where it lay, or in a new block. -/
theorem Hp.grow (H : Hp w0 M w L O F) {j : Nat} {o : Own} (hO : O[j]? = some o) {n : Nat} {cs : List Value} (hg : w.grownBy w' o.v.ownBlock) (hown : w'.ownsRow w0.heap.size o.e o.sz v n cs)
    (hat : v.ownBlock = o.v.ownBlock ∨ ∃ b, v.ownBlock = some b ∧ w.heap.size ≤ b) : Hp w0 M w' L (O.set j ⟨v, o.e, o.sz, n, cs⟩) F := by
  have hmem : o ∈ O := List.mem_of_getElem? hO
  have hj : j < O.length := (List.getElem?_eq_some_iff.1 hO).1
  have hget : ∀ i o', (O.set j ⟨v, o.e, o.sz, n, cs⟩)[i]? = some o' → (i = j ∧ o' = ⟨v, o.e, o.sz, n, cs⟩) ∨ (i ≠ j ∧ O[i]? = some o') := by
    intro i o' h
    rw [List.getElem?_set] at h
    by_cases e : j = i
    · subst e; simp [hj] at h; exact .inl ⟨rfl, h.symm⟩
    · rw [if_neg e] at h; exact .inr ⟨Ne.symm e, h⟩
  have hpair : ∀ (i i' : Nat) (o1 o2 : Own), O[i]? = some o1 → O[i']? = some o2 → i ≠ i' → o1.v.ownBlock = none ∨ o1.v.ownBlock ≠ o2.v.ownBlock := by
    intro i i' o1 o2 h1 h2 hne
    have hp := List.pairwise_iff_getElem.1 H.od
    obtain ⟨l1, e1⟩ := List.getElem?_eq_some_iff.1 h1
    obtain ⟨l2, e2⟩ := List.getElem?_eq_some_iff.1 h2
    subst e1; subst e2
    rcases Nat.lt_or_gt_of_ne hne with h | h
    · exact hp i i' l1 l2 h
    · rcases hp i' i l2 l1 h with h3 | h3
      · cases hc : O[i].v.ownBlock with
        | none => exact .inl rfl
        | some b => right; rw [h3]; simp
      · exact .inr (Ne.symm h3)
  have hlt : ∀ o' ∈ O, ∀ k, o'.v.ownBlock = some k → k < w.heap.size := fun o' ho' k hk => ((H.own o' ho').lt k hk).2
  -- another row's block is not v's
  have hother : ∀ i o', O[i]? = some o' → i ≠ j → o'.v.ownBlock = none ∨ o'.v.ownBlock ≠ v.ownBlock := by
    intro i o' h hne
    rcases hat with e | ⟨b, e, hb⟩
    · rw [e]; exact hpair i j o' o h hO hne
    · cases hc : o'.v.ownBlock with
      | none => exact .inl rfl
      | some k => right; rw [e]; intro e2; injection e2 with e2; have := hlt o' (List.mem_of_getElem? h) k hc; omega
  refine ⟨⟨hg.os.trans H.below.os, hg.tape.trans H.below.tape, hg.output.trans H.below.output, Nat.le_trans H.size hg.size, fun b hb => ?_⟩, ?_, ?_, H.nd, ?_, ?_, ?_⟩
  · rw [hg.block b (Nat.lt_of_lt_of_le hb H.size) ?_]
    · exact H.below.block b hb
    · intro e
      have := ((H.own o hmem).lt b e.symm).1
      omega
  · intro l hl
    refine ⟨(H.loc l hl).1, (hg.block l.b (H.lt hl) ?_).trans (H.loc l hl).2⟩
    intro e; exact H.lo l hl o hmem e.symm
  · intro o' ho'
    obtain ⟨i, hi⟩ := List.mem_iff_getElem?.1 ho'
    rcases hget i o' hi with ⟨_, rfl⟩ | ⟨hne, hi⟩
    · exact hown
    · exact (H.own o' (List.mem_of_getElem? hi)).kept hg (hpair i j o' o hi hO hne)
  · refine List.pairwise_iff_getElem.2 fun i i' l1 l2 hlt' => ?_
    have h1 := List.getElem?_eq_getElem l1
    have h2 := List.getElem?_eq_getElem l2
    rcases hget i _ h1 with ⟨e1, q1⟩ | ⟨n1, q1⟩ <;> rcases hget i' _ h2 with ⟨e2, q2⟩ | ⟨n2, q2⟩
    · omega
    · rw [q1]
      rcases hother i' _ q2 n2 with h | h
      · cases hc : v.ownBlock with
        | none => exact .inl rfl
        | some b => right; rw [h]; simp
      · exact .inr (Ne.symm h)
    · rw [q2]; exact hother i _ q1 n1
    · exact hpair i i' _ _ q1 q2 (by omega)
  · intro l hl o' ho'
    obtain ⟨i, hi⟩ := List.mem_iff_getElem?.1 ho'
    rcases hget i o' hi with ⟨_, rfl⟩ | ⟨hne, hi⟩
    · rcases hat with e | ⟨b, e, hb⟩
      · simp only [e]; exact H.lo l hl o hmem
      · simp only [e]; intro e2; injection e2 with e2; have := H.lt hl; omega
    · exact H.lo l hl o' (List.mem_of_getElem? hi)
  · intro f hf
    refine (H.fact f hf).step hg.size (fun b hb hn => hg.block b hb fun e => hn (.inr (.inr ⟨o, hmem, e.symm⟩))) ?_
    rintro b (h | h | ⟨o', ho', hb⟩)
    · exact .inl (.inl h)
    · exact .inl (.inr (.inl h))
    · obtain ⟨i, hi⟩ := List.mem_iff_getElem?.1 ho'
      rcases hget i o' hi with ⟨_, rfl⟩ | ⟨hne, hi⟩
      · rcases hat with e | ⟨b', e, hb'⟩
        · exact .inl (.inr (.inr ⟨o, hmem, by rw [← e]; exact hb⟩))
        · right; simp only [e] at hb; injection hb with hb; omega
      · exact .inl (.inr (.inr ⟨o', List.mem_of_getElem? hi, hb⟩))

/-- What an append does to the other blocks. -/
structure Gr (w w' : World) (v v' : Value) : Prop where
  below : ∀ n ws, n ≤ w.heap.size → Below n ws w → (∀ b, v.ownBlock = some b → n ≤ b) → Below n ws w'
  ge : ∀ n, n ≤ w.heap.size → (∀ b, v.ownBlock = some b → n ≤ b) → ∀ b, v'.ownBlock = some b → n ≤ b
theorem Gr.of (hg : w.grownBy w' v.ownBlock) (hat : v'.ownBlock = v.ownBlock ∨ ∃ b, v'.ownBlock = some b ∧ w.heap.size ≤ b) : Gr w w' v v' := by
  refine ⟨fun n ws hn hb hv => ⟨hg.os.trans hb.os, hg.tape.trans hb.tape, hg.output.trans hb.output, Nat.le_trans hb.size hg.size, fun b hbn => ?_⟩, fun n hn hv b hb => ?_⟩
  · rw [hg.block b (by omega) fun e => by have := hv b e.symm; omega]
    exact hb.block b hbn
  · rcases hat with e | ⟨b', e, h⟩
    · exact hv b (e ▸ hb)
    · rw [e] at hb; injection hb with hb; omega
/-- 'append(v, ys...)': ys's cells are known. -/
theorem s_append {j e sz by_ : Nat} [hT : SlTy P T e sz by_] {A : Addr} {n m c : Nat} {cs news : List Value} (H : Hp w0 M w L O F) (hO : O[j]? = some ⟨v, e, sz, n, cs⟩)
    (hx : Ev N E x v) (hy : Ev N E y (.slice (some A) m c)) (hl : news.length = m * sz) (hnews : ∀ i u, news[i]? = some u → w.cell? (A.add i) = some u) (h1 : ∀ u ∈ news, u.oneCell' = true)
    (hb : (n + m) * by_ ≤ 140737488355328) (hd : Nat.blt d N = true)
    (h : ∀ v' w', Gr w w' v v' → Hp w0 M w' L (O.set j ⟨v', e, sz, n + m, cs ++ news⟩) F → K ((d, v') :: E) w') :
    St P ops Q ⟨some d, .call { callee := .builtin .append, args := #[x, y], argTypes := #[T, T] }, ty, pos, af, none⟩ N E ds w K := by
  obtain ⟨i, h2, h3, h4, z, h5, h6⟩ := hT.inf
  have hown := H.own _ (List.mem_of_getElem? hO)
  have hlen : n + m ≤ 140737488355328 := Nat.le_trans (Nat.le_mul_of_pos_right _ hT.pos.2) hb
  obtain ⟨v', w', hr, ho, hg, _, hat⟩ := run_append_own_at (P := P) w w0.heap.size T ty e i z sz by_ hT.und h2 h5 h3 h4 h6 hT.pos.1 v n cs hown A m c news hl hnews h1 (by simp only [maxLen]; omega) hb H.size
  refine s_run (w' := w') (r := .value v') rfl ?_ (.inr ⟨_, _, rfl, rfl, hd, h v' w' (Gr.of hg (hat.imp id fun e => ⟨_, e, Nat.le_refl _⟩)) (H.grow hO hg ho (hat.imp id fun e => ⟨_, e, Nat.le_refl _⟩))⟩)
  · simp [execOp, resolve, invoke, builtin, fr_eval hx, fr_eval hy, hr]

/-- Cells filled in from place k on. -/
theorem foldl_fill : ∀ (l : List Value) (k off : Nat) (a : Array Value), off + k + l.length ≤ a.size →
    ((l.zipIdx k).foldl (fun (cs : Array Value) (p : Value × Nat) => cs.setIfInBounds (off + p.2) p.1) a).toList = a.toList.take (off + k) ++ l ++ a.toList.drop (off + k + l.length)
  | [], k, off, a, _ => by simp
  | v :: l, k, off, a, h => by
    simp only [List.zipIdx_cons, List.foldl_cons]
    rw [foldl_fill l (k + 1) off _ (by simp at h ⊢; omega)]
    have hk : off + k < a.toList.length := by simp at h ⊢; omega
    simp only [Array.toList_setIfInBounds, List.length_cons]
    rw [List.take_set, List.drop_set]
    rw [if_pos (by omega)]
    have e1 : (a.toList.take (off + (k + 1))).set (off + k) v = a.toList.take (off + k) ++ [v] := by
      rw [show off + (k + 1) = off + k + 1 from by omega, List.take_succ_eq_append_getElem hk, List.set_append_right _ _ (by simp; omega)]
      have hk' : off + k < a.size := by simpa using hk
      rw [List.length_take, Nat.min_eq_left (Nat.le_of_lt hk), Nat.sub_self]
      simp
    rw [e1, show off + (k + 1) + l.length = off + k + (l.length + 1) from by omega]
    simp
/-- '[]T{x}' that is appended: its one element's cells in a block. -/
theorem s_slice1 {e sz by_ : Nat} [hT : SlTy P T e sz by_] {cs : List Value} (H : Hp w0 M w L O F) (hx : Ev N E x v) (hv : v.cells.toList = cs) (hl : cs.length = sz) (hsm : Nat.ble sz 16777216 = true) (hd : Nat.blt d N = true)
    (h : ∀ w' b, Below w.heap.size w w' → Hp w0 M w' (⟨b, cs, e⟩ :: L) O F → K ((d, .slice (some ⟨b, 0, none⟩) 1 1) :: E) w') :
    St P ops Q ⟨some d, .buildSlice T 1 #[(0, x)], ty, pos, af, none⟩ N E ds w K := by
  obtain ⟨i, h2, h3, h4, z, h5, h6⟩ := hT.inf
  have e1 : v.cells = cs.toArray := by rw [← hv]
  have hp := hT.pos.1
  have hsm' : ¬ 16777216 < sz := by simp at hsm; omega
  have hfill : ∀ A : Array Value, A.size = sz → (cs.toArray.zipIdx.foldl (fun (cs : Array Value) (p : Value × Nat) => cs.setIfInBounds (0 + p.2) p.1) A) = cs.toArray := by
    intro A hA
    apply Array.toList_inj.1
    have := foldl_fill cs 0 0 A (by omega)
    rw [← Array.foldl_toList]
    simp only [Array.toList_zipIdx] at this ⊢
    rw [this]
    simp [hA, hl]
  have hr : (execOp (fr N E ds).eval ⟨some d, .buildSlice T 1 #[(0, x)], ty, pos, af, none⟩).run P w = .ok (.value (.slice (some ⟨w.heap.size, 0, none⟩) 1 1)) (w.alloc (.cells cs.toArray e)) := by
    have hne : ¬ sz = 0 := by omega
    have hf := hfill ((Array.range sz).map (z.cells[· % z.cells.size]!)) (by simp)
    simp only [Nat.zero_add] at hf
    simp [execOp, fr_eval hx, Instr.buildSlice, underlying, hT.und, run_sizeOf_ h2, h3, hsm', hne, zeroValue, typeInfo, h2, h5, Instr.fill, e1, hl, newRow]
    simp at hf
    rw [hf]
  exact s_run rfl hr (.inr ⟨_, _, rfl, rfl, hd, h _ _ ((Below.refl _ _).alloc (Nat.le_refl _) _) (H.alloc cs e)⟩)
/-! ### Rows that represent lists -/
structure Chunks {α : Type} (d : Rp α) (sz : Nat) (xs : List α) (cs : List Value) (w : World) : Prop where
  len : cs.length = xs.length * sz
  at_ : ∀ i x, xs[i]? = some x → d w x ((cs.drop (i * sz)).take sz)
theorem Chunks.nil {α : Type} {d : Rp α} {sz : Nat} : Chunks d sz ([] : List α) [] w := ⟨by simp, fun i x h => by simp at h⟩
theorem Chunks.snoc {α : Type} {d : Rp α} {sz : Nat} {xs : List α} {cs cx : List Value} {x : α} (h : Chunks d sz xs cs w) (hx : d w x cx) (hl : cx.length = sz) : Chunks d sz (xs ++ [x]) (cs ++ cx) w := by
  refine ⟨by rw [List.length_append, h.len, hl, List.length_append, List.length_singleton, Nat.add_mul, Nat.one_mul], fun j q hq => ?_⟩
  rcases Nat.lt_or_ge j xs.length with hj | hj
  · rw [List.getElem?_append_left hj] at hq
    have h1 : j * sz + sz ≤ cs.length := by rw [h.len, ← Nat.succ_mul]; exact Nat.mul_le_mul_right _ hj
    rw [List.drop_append_of_le_length (by omega), List.take_append_of_le_length (by rw [List.length_drop]; omega)]
    exact h.at_ j q hq
  · have hj' : j = xs.length := by
      have := (List.getElem?_eq_some_iff.1 hq).1
      rw [List.length_append, List.length_singleton] at this
      omega
    subst hj'
    have hq' : x = q := by simpa using hq
    subst hq'
    rw [← h.len, List.drop_left, ← hl, List.take_length]
    exact hx
theorem Stab.snoc {α : Type} {d : Rp α} {sz : Nat} {xs : List α} {cs cx : List Value} {x : α} (h : Stab w M (Chunks d sz xs cs)) (hx : Stab w M (fun w' => d w' x cx)) (hl : cx.length = sz) : Stab w M (Chunks d sz (xs ++ [x]) (cs ++ cx)) :=
  fun w' hs hw => (h w' hs hw).snoc (hx w' hs hw) hl
/-- The whole numbers of a row. -/
theorem chunks_ints {k : IntKind} {xs : List Int} (h : ∀ x ∈ xs, rng k x) : Chunks (kInt k) 1 xs (xs.map (Value.int k)) w := by
  refine ⟨by simp, fun i x hx => ?_⟩
  refine ⟨?_, h x (List.mem_of_getElem? hx)⟩
  obtain ⟨hi, he⟩ := List.getElem?_eq_some_iff.1 hx
  rw [Nat.mul_one, List.take_one, List.head?_drop]
  simp [hi, he]

/-- A row of one's own, which nobody writes any more, is read. -/
theorem own_row {α : Type} {d : Rp α} {e sz n : Nat} {xs : List α} {cs : List Value} {base : Nat} (hw : w.ownsRow base e sz v n cs) (h : Stab w M (Chunks d sz xs cs)) (hsz : 0 < sz) (hM : ∀ b, v.ownBlock = some b → M b) (hn : n = xs.length) (hbd : xs.length ≤ 140737488355328)
    {M1 : Nat → Prop} (hM1 : ∀ b, M1 b → M b) (hv : ∀ b, v.ownBlock = some b → ¬ M1 b) : ∃ A c, v = .slice A xs.length c ∧ xs.length ≤ c ∧ c ≤ 9223372036854775807 ∧ Stab w M1 (Row d sz A xs) := by
  subst hn
  have key : ∀ A, (xs ≠ [] → ∃ a, A = some a ∧ v.ownBlock = some a.block ∧ ∀ j u, cs[j]? = some u → w.cell? (a.add j) = some u) → Stab w M1 (Row d sz A xs) := by
    intro A hA
    intro w' hs hb
    have hc := (h.mono hM1) w' hs hb
    refine ⟨hbd, fun hne => ?_⟩
    obtain ⟨a, rfl, hab, hcell⟩ := hA hne
    refine ⟨a, rfl, fun i x hx => ⟨_, ?_, hc.at_ i x hx, fun j u hu => ?_⟩⟩
    · have hi := (List.getElem?_eq_some_iff.1 hx).1
      have : (i + 1) * sz ≤ xs.length * sz := Nat.mul_le_mul_right _ hi
      rw [List.length_take, List.length_drop, hc.len]
      rw [Nat.add_mul, Nat.one_mul] at this
      omega
    · rw [List.getElem?_take] at hu
      split at hu
      · rw [List.getElem?_drop] at hu
        have h1 := hcell _ u hu
        rw [← h1]
        have hblk : (a.add (i * sz + j)).block = a.block := by unfold Addr.add; split <;> rfl
        refine World.cell?_of_block ?_
        rw [hblk]
        exact hb _ (hw.lt _ hab).2 (hv _ hab)
      · cases hu
  rcases hw.2 with ⟨rfl, h0⟩ | ⟨gg, cap, cur, rfl, h2, h3, h4, h5, h6, h7⟩
  · exact ⟨none, 0, by rw [h0], by omega, by omega, key none fun hne => absurd (List.eq_nil_of_length_eq_zero h0) hne⟩
  · exact ⟨some ⟨gg, 0, none⟩, cap, rfl, h4, by simp only [maxLen] at h5; omega, key _ fun _ => ⟨_, rfl, rfl, fun j u hu => hw.cells (g := gg) rfl j u hu⟩⟩
theorem Hp.row {α : Type} {d : Rp α} {e sz n : Nat} {xs : List α} {cs : List Value} {j : Nat} (H : Hp w0 M w L O F) (hO : O[j]? = some ⟨v, e, sz, n, cs⟩) (hm : Chunks d sz xs cs ∈ F) (hsz : 0 < sz) (hn : n = xs.length) (hbd : xs.length ≤ 140737488355328) (hM : ∀ b, M b → b < w0.heap.size) :
    ∃ A c, v = .slice A xs.length c ∧ xs.length ≤ c ∧ c ≤ 9223372036854775807 ∧ Stab w M (Row d sz A xs) := by
  have hmem := List.mem_of_getElem? hO
  refine own_row (H.own _ hmem) (H.fact _ hm) hsz (fun b hb => .inr (.inr ⟨_, hmem, hb⟩)) hn hbd (fun b hb => .inl hb) fun b hb hMb => ?_
  have := ((H.own _ hmem).lt b hb).1
  have := hM b hMb
  omega
end
end Go.Proofs.YtiolpldihoghiaaDoor

namespace Go.Proofs.YtiolpldihoghiaaDoor
open Go.RowKit
set_option linter.unusedVariables false
set_option linter.unusedSimpArgs false

section
variable {P : Program} {N : Nat} {E : List (Nat × Value)} {ds : List Deferred} {ops : Array Oper} {rest : List Oper} {Q Q' : Exit → Act → World → Prop}
variable {d : Nat} {o : Op} {dst : Option Tmp} {ty : TypeId} {pos : String} {af : Array Edge} {g : Option (Nat × Bool)} {w w' : World} {v v' : Value} {x y z : Operand} {T u : TypeId} {a b : Int}
variable {w0 : World} {M : Nat → Prop} {L : List Loc} {O : List Own} {F : List (World → Prop)} {K : List (Nat × Value) → World → Prop}

theorem Hp.mu_lt (H : Hp w0 M w L O F) (hM : ∀ b, M b → b < w0.heap.size) : ∀ b, Mu M L O b → b < w.heap.size := by
  rintro b (h | ⟨l, hl, rfl⟩ | ⟨o, ho, hb⟩)
  · exact Nat.lt_of_lt_of_le (hM b h) H.size
  · exact H.lt hl
  · exact ((H.own o ho).lt b hb).2

/-! ### Results -/
/-- What a result variable hands back. -/
inductive Rv (P : Program) (N : Nat) (E : List (Nat × Value)) (w : World) : ResultVar → Value → Prop where
  | tmp {t : Tmp} {v : Value} : Nat.blt t N = true → get E t = v → Rv P N E w (.tmp t) v
  | cell {t : Tmp} {T : TypeId} {a : Addr} {v : Value} : Nat.blt t N = true → get E t = .pointer (some a) → (loadVar T a).run P w = .ok v w → Rv P N E w (.cell t T) v
inductive Rvs (P : Program) (N : Nat) (E : List (Nat × Value)) (w : World) : List ResultVar → List Value → Prop where
  | nil : Rvs P N E w [] []
  | cons {r : ResultVar} {v : Value} {rs : List ResultVar} {vs : List Value} : Rv P N E w r v → Rvs P N E w rs vs → Rvs P N E w (r :: rs) (v :: vs)
theorem rv_cell {sz i : Nat} [hT : AgT P T sz] (H : Hp w0 M w L O F) {t : Tmp} {b : Nat} {cs : List Value} {t' : TypeId} (hN : Nat.blt t N = true) (hg : get E t = lp b 0) (hl : L[i]? = some ⟨b, cs, t'⟩) (hs : cs.length = sz) : Rv P N E w (.cell t T) (.agg cs.toArray) := by
  obtain ⟨dd, hd, hb⟩ := hT.und
  obtain ⟨ii, hi, hz⟩ := hT.inf
  refine .cell hN hg ?_
  have hc := (H.loc _ (List.mem_of_getElem? hl)).2
  exact run_loadVar_row w b t' T cs.toArray (0, 0) dd hc hd (by cases dd <;> first | rfl | simp [isAggB] at hb) (by simp [hi, hz, hs])
theorem rv_cells {i : Nat} [hT : ScT P T] (H : Hp w0 M w L O F) {t : Tmp} {b : Nat} {t' : TypeId} (hN : Nat.blt t N = true) (hg : get E t = lp b 0) (hl : L[i]? = some ⟨b, [v], t'⟩) : Rv P N E w (.cell t T) v := by
  obtain ⟨dd, hd, hb⟩ := hT.und
  refine .cell hN hg ?_
  have hc := (H.loc _ (List.mem_of_getElem? hl)).2
  have hcell : w.cell? ⟨b, 0, none⟩ = some v := by rw [cell_of_row w b 0 _ _ _ hc]; rfl
  simp [loadVar, run_isAgg hd, hb, hcell]
theorem run_mapM_rvs (tmps : Array Value) (f : ResultVar → Sem Value) (hf : ∀ r v, Rv P N E w r v → (f r).run P w = .ok v w) : ∀ {rs : List ResultVar} {vs : List Value}, Rvs P N E w rs vs → (rs.mapM (m := Sem) f).run P w = .ok vs w
  | _, _, .nil => rfl
  | _, _, .cons h hs => by
    simp only [List.mapM_cons, Sem.run_bind, hf _ _ h, Result.andThen_ok, run_mapM_rvs tmps f hf hs, Sem.run_pure]
theorem retv {fn : Func} {rs : List ResultVar} {vs : List Value} {post : Value → World → Prop} (H : Hp w0 M w L O F) (hr : fn.results = rs.toArray) (hv : Rvs P N E w rs vs)
    (hp : post (if h : vs.length = 1 then vs[0] else .tuple vs.toArray) w) : BP P fn (RetPost w0 post) .ret (fr N E []) w := by
  refine ⟨⟨rfl, if h : vs.length = 1 then vs[0] else .tuple vs.toArray, ?_, ⟨_, rfl, H.below, hp⟩⟩⟩
  unfold results
  rw [hr]
  simp only [List.mapM_toArray, Sem.run_bind, Sem.run_map]
  rw [run_mapM_rvs (fr N E []).tmps _ ?_ hv]
  · simp
  · intro r v h
    cases h with
    | @tmp t v h1 h2 =>
      have h1' : t < N := by simpa using h1
      simp [fr, h1', h2]
    | @cell t T a v h1 h2 h3 =>
      have h1' : t < N := by simpa using h1
      simp [fr, h1', h2, asAddr, h3]
/-- A function all of whose results are handed back in one variable. -/
theorem retc {sz i : Nat} [hT : AgT P T sz] {fn : Func} {t : Tmp} {b : Nat} {cs : List Value} {t' : TypeId} {post : Value → World → Prop} (H : Hp w0 M w L O F) (hr : fn.results = #[.cell t T]) (hN : Nat.blt t N = true) (hg : get E t = lp b 0)
    (hl : L[i]? = some ⟨b, cs, t'⟩) (hs : cs.length = sz) (hp : post (.agg cs.toArray) w) : BP P fn (RetPost w0 post) .ret (fr N E []) w :=
  retv H (rs := [.cell t T]) (by rw [hr]) (.cons (rv_cell H hN hg hl hs) .nil) hp
theorem retct {sz i : Nat} [hT : AgT P T sz] {fn : Func} {t t2 : Tmp} {b : Nat} {cs : List Value} {t' : TypeId} {post : Value → World → Prop} (H : Hp w0 M w L O F) (hr : fn.results = #[.cell t T, .tmp t2]) (hN : Nat.blt t N = true) (hg : get E t = lp b 0)
    (hl : L[i]? = some ⟨b, cs, t'⟩) (hs : cs.length = sz) (hN2 : Nat.blt t2 N = true) (hg2 : get E t2 = v) (hp : post (.tuple #[.agg cs.toArray, v]) w) : BP P fn (RetPost w0 post) .ret (fr N E []) w :=
  retv H (rs := [.cell t T, .tmp t2]) (by rw [hr]) (.cons (rv_cell H hN hg hl hs) (.cons (.tmp hN2 hg2) .nil)) hp

/-! ### A region that draws its order and acts: S holds behind every operation that is none of B -/
def anyM (P : Program) (md : Region.Mode) (ops : Array Oper) (Q : Exit → Act → World → Prop) (B : Nat → Bool) (S : World → Prop) : Nat → Array Bool → Act → World → Prop
  | 0, li, a, w => Region.ready md ops li = [] ∧ Q .normal a w
  | f + 1, li, a, w => (Region.ready md ops li = [] → Q .normal a w) ∧
    ∀ i ∈ Region.ready md ops li, wpOp P ops Q i (fun a' w' => (B i = false → S w → S w') ∧ anyM P md ops Q B S f (li.setIfInBounds i true) a' w') a w
variable {md : Region.Mode} {S : World → Prop} {B : Nat → Bool}
theorem any_of_M : ∀ (f : Nat) (li : Array Bool) (a : Act) (w : World), anyM P md ops Q B S f li a w → wpAny P md ops Q f li a w
  | 0, _, _, _, h => h
  | f + 1, _, _, _, h => ⟨h.1, fun i hi => wpOp_mono (fun a' w' h' => any_of_M f _ a' w' h'.2) (h.2 i hi)⟩
/-- T: the operation looks at the world. -/
theorem anyM_first0 (T : Bool) {i : Nat} {oi : Oper} {v : Value} (hi : ops[i]? = some oi) (hsel : ∀ (j : Nat) (o : Oper) cs b, ops[j]? = some o → o.op ≠ .select cs b)
    (hQ : ∀ c a w, Q (.panic c) (a.put oi.dst v) w → Q (.panic c) a w) : ∀ (f : Nat) (li : Array Bool) (a : Act) (w : World),
    (∀ j oj, ops[j]? = some oj → j ≠ i → li.getD j true = false → (∀ e ∈ oj.after, Region.binds md e = true → e.on ≠ i) → oi.apart ops oj = true ∧ (T = true → B j = false)) →
    i ∈ Region.ready md ops li → YieldsIf P ops (fun w => T = true → S w) oi v a → (T = true → S w) → anyM P md ops Q B S f (li.setIfInBounds i true) (a.put oi.dst v) w → anyM P md ops Q B S (f + 1) li a w := by
  intro f
  induction f with
  | zero =>
    intro li a w _ hr hy hS H
    refine ⟨fun h => (by rw [h] at hr; cases hr), fun j hj => ?_⟩
    by_cases hji : j = i
    · subst hji; exact hy.wpOp hi hS ⟨fun _ h => h, H⟩
    · have := ready_mono hj hji
      rw [H.1] at this
      cases this
  | succ f ih =>
    intro li a w hfree hr hy hS H
    refine ⟨fun h => (by rw [h] at hr; cases hr), fun j hj => ?_⟩
    by_cases hji : j = i
    · subst hji; exact hy.wpOp hi hS ⟨fun _ h => h, H⟩
    · have h1 := H.2 j (ready_mono hj hji)
      obtain ⟨hjun, oj, hoj, hall⟩ := mem_ready.1 hj
      have hiun := (mem_ready.1 hr).1
      have hnot : ∀ e ∈ oj.after, Region.binds md e = true → e.on ≠ i := by
        intro e he hb heq
        have h2 := hall e he hb
        rw [heq, getD_both hiun] at h2
        cases h2
      have hf := hfree j oj hoj hji hjun hnot
      have h2 := wpOp_putIf hoj hf.1 (fun cs b => hsel i oi cs b hi) (fun cs b => hsel j oj cs b hoj) hQ hy h1
      have hr' : i ∈ Region.ready md ops (li.setIfInBounds j true) := ready_mono hr (Ne.symm hji)
      have hfree' : ∀ k ok, ops[k]? = some ok → k ≠ i → (li.setIfInBounds j true).getD k true = false →
          (∀ e ∈ ok.after, Region.binds md e = true → e.on ≠ i) → oi.apart ops ok = true ∧ (T = true → B k = false) := fun k ok hk hki hun hno => by
        refine hfree k ok hk hki ?_ hno
        by_cases hjk : j = k
        · subst hjk; exact hjun
        · rw [getD_set_ne true hjk] at hun; exact hun
      refine wpOp_mono (fun a' w' h3 => ?_) h2
      obtain ⟨hy', hS', hM'⟩ := h3
      refine ⟨hS', ih (li.setIfInBounds j true) a' w' hfree' hr' hy' (fun ht => hS' (hf.2 ht) (hS ht)) ?_⟩
      rw [Array.setIfInBounds_comm _ _ hji]
      exact hM'

/-! The same, sealed, over frames of slots. 'B' as a list of numbers; Q never panics. -/
structure NP (Q : Exit → Act → World → Prop) (e : Exit) (a : Act) (w : World) : Prop where
  out : match e with
    | .panic _ => False
    | e => Q e a w
theorem NP.imp (e : Exit) (a : Act) (w : World) (h : NP Q e a w) : Q e a w := by
  have := h.out
  cases e <;> first | exact this | exact this.elim
structure WM (P : Program) (ops : Array Oper) (Q : Exit → Act → World → Prop) (B : List Nat) (ws : World) (f : Nat) (li : List Bool) (N : Nat) (E : List (Nat × Value)) (ds : List Deferred) (w : World) : Prop where
  out : anyM P .any ops (NP Q) (fun i => B.elem i) (fun w' => Below ws.heap.size ws w') f li.toArray (fr N E ds) w
/-- Those that may come up. -/
def rdy (ops : Array Oper) (li : List Bool) : List Nat := Region.ready .any ops li.toArray
/-- Number i may be taken first, if it looks at no block; if it does. -/
def okPure (ops : Array Oper) (li : List Bool) (i : Nat) : Bool := Region.noSelect ops && (rdy ops li).contains i && Region.free .any ops li.toArray i
def okFirst (ops : Array Oper) (B : List Nat) (li : List Bool) (i : Nat) : Bool :=
  okPure ops li i && (List.range ops.size).all fun j => j == i || li.toArray.getD j true || !B.elem j || match ops[j]? with
    | some oj => oj.after.any fun e => Region.binds .any e && e.on == i
    | none => true

theorem c_mix [hm : Mixed P] (H : Hp w0 M w L O F) (B : List Nat) {id : Nat} {l : List Oper}
    (h : ∀ w', Hp w0 M w' L O F → WM P l.toArray Q B w' l.length (List.replicate l.length false) N E ds w') : WC P (Code.region id l.toArray true) Q N E ds w := by
  refine ⟨Code.wp_mono (fun e a w h => NP.imp e a w h) (wp_region_any hm.yes ?_)⟩
  have h1 := (h { w with drawn := w.drawn + 1 } (H.ext ⟨rfl, rfl, rfl, Nat.le_refl _, fun _ _ => rfl⟩)).out
  have h2 := any_of_M _ _ _ _ h1
  simpa using h2
theorem yieldsIf_rd {S : World → Prop} {oo : Oper} (hg : Region.wanted oo (yielded ops (fr N E ds).tmps) = true) (hS : ∀ w', S w' → (∀ b, b < w.heap.size → w'.heap[b]? = w.heap[b]?)) (hr : Rd P oo N E w v) : YieldsIf P ops S oo v (fr N E ds) :=
  .inl ⟨hg, fun w' hw' => hr.run ds w' (hS w' hw')⟩
theorem m_take {ws : World} {f i : Nat} {li : List Bool} {B : List Nat} {oo : Oper} (hi : ops[i]? = some oo) (hk : okFirst ops B li i = true) (hy : YieldsIf P ops (fun w' => true = true → Below ws.heap.size ws w') oo v (fr N E ds)) (hS : Below ws.heap.size ws w)
    (h : anyM P .any ops (NP Q) (fun i => B.elem i) (fun w' => Below ws.heap.size ws w') f (li.set i true).toArray ((fr N E ds).put oo.dst v) w) : WM P ops Q B ws (f + 1) li N E ds w := by
  simp only [okFirst, okPure, Bool.and_eq_true] at hk
  obtain ⟨⟨⟨h1, h2⟩, h3⟩, h4⟩ := hk
  refine ⟨anyM_first0 true hi (Region.noSelect_spec h1) (fun c a w hq => hq.out.elim) f li.toArray _ w ?_ (by simpa [rdy] using h2) hy (fun _ => hS) (by simpa using h)⟩
  intro j oj hj hne hun hno
  refine ⟨Region.free_spec hi h3 j oj hj hne hun hno, fun _ => ?_⟩
  have hj' := List.all_eq_true.1 h4 j (List.mem_range.2 (Array.getElem?_eq_some_iff.1 hj).1)
  simp only [hj, Bool.or_eq_true, beq_iff_eq, hne, false_or, hun, Bool.false_eq_true, Bool.not_eq_true'] at hj'
  rcases hj' with hj' | hj'
  · exact hj'
  · obtain ⟨e, he, hbb⟩ := Array.any_eq_true'.1 hj'
    simp only [Bool.and_eq_true, beq_iff_eq] at hbb
    exact absurd hbb.2 (hno e he hbb.1)
theorem m_take0 {ws : World} {f i : Nat} {li : List Bool} {B : List Nat} {oo : Oper} (hi : ops[i]? = some oo) (hk : okPure ops li i = true) (hy : YieldsIf P ops (fun w' => false = true → Below ws.heap.size ws w') oo v (fr N E ds))
    (h : anyM P .any ops (NP Q) (fun i => B.elem i) (fun w' => Below ws.heap.size ws w') f (li.set i true).toArray ((fr N E ds).put oo.dst v) w) : WM P ops Q B ws (f + 1) li N E ds w := by
  simp only [okPure, Bool.and_eq_true] at hk
  obtain ⟨⟨h1, h2⟩, h3⟩ := hk
  refine ⟨anyM_first0 false hi (Region.noSelect_spec h1) (fun c a w hq => hq.out.elim) f li.toArray _ w ?_ (by simpa [rdy] using h2) hy (fun h => by cases h) (by simpa using h)⟩
  intro j oj hj hne hun hno
  exact ⟨Region.free_spec hi h3 j oj hj hne hun hno, fun h => by cases h⟩
end
end Go.Proofs.YtiolpldihoghiaaDoor
