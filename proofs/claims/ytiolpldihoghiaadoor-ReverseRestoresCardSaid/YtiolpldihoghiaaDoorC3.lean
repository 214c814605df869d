/- The engine, part 17: ranges over a function. Over any program. The engine, part 18: slices of two elements; rows of nil slices. Over any program. The engine, part 19: slices of slices. Over any program. The engine, part 20: regions that act: reads that are ahead of all stores by a chain of edges. Over any program. The program's types and functions, told to the engine. Printed by gen_ty.py (this repository's own). -/
import Derived.Test.YtiolpldihoghiaaDoorC2
import Derived.Test.YtiolpldihoghiaaDoorProg
namespace Go.Proofs.YtiolpldihoghiaaDoor
open Go.RowKit
set_option linter.unusedVariables false
set_option linter.unusedSimpArgs false

section
variable {P : Program} {N : Nat} {E : List (Nat × Value)} {ds : List Deferred} {ops : Array Oper} {rest : List Oper} {Q Q' : Exit → Act → World → Prop} {ro : Option Nat} {n : Nat}
variable {d d1 : Nat} {o : Op} {dst : Option Tmp} {ty ty1 : TypeId} {pos pos1 : String} {af af1 : Array Edge} {w w' ws : World} {v v' q : Value} {x y z : Operand} {T T' u : TypeId} {a b : Int}
variable {w0 : World} {M : Nat → Prop} {L : List Loc} {O : List Own} {F : List (World → Prop)} {K : List (Nat × Value) → World → Prop}

/-- What held where the call began, holds. -/
theorem Hp.base (H : Hp w0 M w L O F) {f : World → Prop} (hf : Stab w0 M f) : Stab w (Mu M L O) f := fun w' hs hw =>
  hf w' (Nat.le_trans H.size hs) fun b hb hn => (hw b (Nat.lt_of_lt_of_le hb H.size) fun h => by
    rcases h with h | ⟨l, hl, rfl⟩ | ⟨o, ho, hb2⟩
    · exact hn h
    · have := (H.loc l hl).1; omega
    · have := ((H.own o ho).lt b hb2).1; omega).trans (H.below.block b hb)
theorem Hp.forget (H : Hp w0 M w L O F) : Hp w0 M w L O [] := H.facts (by simp)
theorem own_cells {e sz m base b : Nat} {cs : List Value} (h : w.ownsRow base e sz v m cs) (hb : v.ownBlock = some b) : ∃ cur, w.heap[b]? = some (.cells cur e (0, 0)) := by
  rcases h.2 with ⟨h1, _⟩ | ⟨gg, cap, cur, h1, _, h3, _⟩
  · rw [h1] at hb; cases hb
  · rw [h1] at hb; injection hb with hb; subst hb; exact ⟨cur, h3⟩
/-- A block that holds no cells has turned. -/
theorem Hp.turn (H : Hp w0 M w L O []) {row : Option Nat} (hg : w.grownBy w' row) (hr : ∀ r, row = some r → w0.heap.size ≤ r ∧ ∃ o : Obj, w.heap[r]? = some o ∧ o.isCells = false) : Hp w0 M w' L O [] := by
  have hcell : ∀ r, row = some r → ∀ b cs t, w.heap[b]? = some (.cells cs t (0, 0)) → r ≠ b := fun r e b cs t hb hrb => by
    obtain ⟨_, o, h1, h2⟩ := hr r e
    subst hrb
    rw [hb] at h1; injection h1 with h1; subst h1; cases h2
  refine ⟨⟨hg.os.trans H.below.os, hg.tape.trans H.below.tape, hg.output.trans H.below.output, Nat.le_trans H.size hg.size, fun b hb => ?_⟩, fun l hl => ⟨(H.loc l hl).1, ?_⟩, fun o ho => ?_, H.nd, H.od, H.lo, by simp⟩
  · rw [hg.block b (Nat.lt_of_lt_of_le hb H.size) fun e => by have := (hr b e.symm).1; omega]
    exact H.below.block b hb
  · rw [hg.block l.b (H.lt hl) fun e => hcell l.b e.symm _ _ _ (H.loc l hl).2 rfl]
    exact (H.loc l hl).2
  · refine (H.own o ho).kept hg ?_
    cases hv : o.v.ownBlock with
    | none => exact .inl rfl
    | some b =>
      right; intro e
      obtain ⟨cur, hc⟩ := own_cells (H.own o ho) hv
      exact hcell b e.symm b cur _ hc rfl
/-- Blocks that hold no cells stay as they lie, whatever becomes of one's own. -/
theorem Hp.keeps (H : Hp w0 M w L O F) (hM : ∀ b, M b → b < w0.heap.size) {B : Nat} (hB : w0.heap.size ≤ B) : Stab w (Mu M L O) (KeepsFrom B w) := fun w' hs hw =>
  ⟨hs, fun k o hk h1 h2 => by
    refine (hw k (Array.getElem?_eq_some_iff.1 h1).1 fun h => ?_).trans h1
    have hc : ∃ cs t, w.heap[k]? = some (.cells cs t (0, 0)) := by
      rcases h with h | ⟨l, hl, rfl⟩ | ⟨o, ho, hb⟩
      · have := hM k h; omega
      · exact ⟨_, _, (H.loc l hl).2⟩
      · obtain ⟨cur, hc⟩ := own_cells (H.own o ho) hb; exact ⟨_, _, hc⟩
    obtain ⟨cs, t, hc⟩ := hc
    rw [hc] at h1; injection h1 with h1; subst h1; cases h2⟩
/-- A block that a callee has made. -/
theorem Hp.addLoc (H : Hp w0 M w L O F) {l : Loc} (hb : Below w.heap.size w w') (hl : w.heap.size ≤ l.b) (hc : w'.heap[l.b]? = some (.cells l.cs.toArray l.t (0, 0))) : Hp w0 M w' (l :: L) O F := by
  have H' := H.ext hb
  refine ⟨H'.below, ?_, H'.own, ?_, H'.od, ?_, ?_⟩
  · intro l' hl'
    rcases List.mem_cons.1 hl' with rfl | hl'
    · exact ⟨Nat.le_trans H.size hl, hc⟩
    · exact H'.loc l' hl'
  · simp only [List.map_cons, List.nodup_cons]
    refine ⟨fun hm => ?_, H.nd⟩
    obtain ⟨l', hl', he⟩ := List.mem_map.1 hm
    have := H.lt hl'
    omega
  · intro l' hl' o ho
    rcases List.mem_cons.1 hl' with rfl | hl'
    · intro e
      have := ((H.own o ho).lt _ e).2
      omega
    · exact H.lo l' hl' o ho
  · intro f hf
    refine (H.fact f hf).step hb.size (fun b hb' _ => hb.block b hb') ?_
    rintro b (h1 | ⟨l', hl', rfl⟩ | h1)
    · exact .inl (.inl h1)
    · rcases List.mem_cons.1 hl' with rfl | hl'
      · exact .inr hl
      · exact .inl (.inr (.inl ⟨l', hl', rfl⟩))
    · exact .inl (.inr (.inr h1))

/-! ### A function whose body holds a range over a function -/
structure BM (P : Program) (fn : Func) (R : Ending → World → Prop) (e : Exit) (a : Act) (w : World) : Prop where
  out : bodyPostM Fence.wide 9 P fn R e a w
theorem enterM {k : FuncId} {fn : Func} {c : Code} {vs : List Value} {F : List (World → Prop)} {post : Value → World → Prop} (hf : P.funcs[k]? = some fn) (hb : fn.body = some c) (hN : fn.ntmps = N) (hl : Nat.ble vs.length N = true)
    (hF : ∀ f ∈ F, Stab w M f) (h : Hp w M w [] [] F → WC P c (BM P fn (RetPost w post)) N (numb 0 vs) [] w) : Ret P k vs w post := by
  have := wpIn_wide (n := 9).2 (Code.wp_mono (fun _ _ _ h => h.out) (h (Hp.start w M F hF)).out)
  subst hN
  refine ⟨Calls.mono (callsIn_wide.1 (callsIn_of_wp_marks (F := Fence.wide) (n := 9) hf hb trivial (R := RetPost w post) ?_ rfl)) fun e w' hr => hr.out⟩
  have e := fr_start (N := fn.ntmps) (ds := []) vs hl
  rw [show ({ tmps := vs.toArray ++ Array.replicate (fn.ntmps - vs.toArray.size) undef, defers := [] } : Act) = fr fn.ntmps (numb 0 vs) [] from by rw [e]; rfl]
  exact this
/-- The return, behind one loop. -/
theorem retM1 {fn : Func} {t : Tmp} {D : Nat} {post : Value → World → Prop} (H : Hp w0 M w L O F) (hD : w0.heap.size ≤ D) (hK : w.heap[D]? = some (.deferred (some []))) (hr : fn.results = #[.tmp t]) (hN : Nat.blt t N = true) (hv : get E t = v)
    (hp : ∀ w', Hp w0 M w' L O [] → post v w') : BM P fn (RetPost w0 post) .ret (fr N E [{ target := .collected D, args := #[] }]) w := by
  have h1 : t < N := by simpa using hN
  have hg := grownBy_putObj' w D (.deferred none)
  have H' := H.forget.turn hg (fun r e => by cases e; exact ⟨hD, _, hK, rfl⟩)
  refine ⟨⟨by simp, .inl ⟨D, _, rfl, run_takeDeferred hK, ?_⟩⟩⟩
  refine ⟨v, ?_, ⟨_, rfl, H'.below, hp _ H'⟩⟩
  rw [results_get (ts := [t]) (vs := [v]) (by rw [hr]; rfl) (by simp [fr, h1, hv])]
  rfl

/-! ### The loop -/
structure Bd {α : Type} (B : Nat) (Kp : World → World → Prop) (I : List α → World → Prop) (xs : List α) (W : World) (e : Exit) (a : Act) (w : World) : Prop where
  out : ownPostG B Kp I (fun _ _ _ => False) xs W e a w
instance {α : Type} {B : Nat} {Kp : World → World → Prop} {I : List α → World → Prop} {xs : List α} {W : World} : NO (Bd B Kp I xs W) := ⟨fun ⟨a, w, h⟩ => h.out⟩
structure Ke (K : Act → World → Prop) (e : Exit) (a : Act) (w : World) : Prop where
  out : Exit.then K (fun _ _ _ => False) e a w
instance {K : Act → World → Prop} : NO (Ke K) := ⟨fun ⟨a, w, h⟩ => h.out⟩
theorem ke_n {K : Act → World → Prop} {a : Act} (h : K a w) : Ke K .normal a w := ⟨h⟩
theorem bd_n {α : Type} {B : Nat} {Kp : World → World → Prop} {I : List α → World → Prop} {xs : List α} {W : World} {a : Act} (h1 : KeepsFrom B W w) (h2 : Kp W w) (h3 : I xs w) : Bd B Kp I xs W .normal a w := ⟨⟨h1, h2, h3⟩⟩
theorem c_range1 {α : Type} {enc : α → Value} {p : Nat} {assign body : Code} {gf : Nat} [hk : FnT P gf] {lb : List Value} {Kp : World → World → Prop} {S Sp : List α → Prop} {m : Nat} (p' : Nat) (Inv : List α → World → Prop)
    (hp : Nat.blt p N = true) (hg : Ev N E x (.func (.func gf) #[] lb.toArray)) (hseq : SeqStopsK Fence.wide 8 P gf lb.toArray (fun x => #[enc x]) Kp S Sp m w)
    (hKt : ∀ {A B C : World}, Kp A B → Kp B C → Kp A C) (hKb : ∀ (W : World) (l : Nat) (o o' : Obj), w.heap.size ≤ l → W.heap[l]? = some o → o.isCells = false → o.isWalk = false → Kp W (W.putObj l o'))
    (hI : OwnFrom w.heap.size Inv) (h0 : Inv [] w)
    (hassign : ∀ (l : Nat) (x : α) (W : World) (K : Act → World → Prop), K (fr N ((p', enc x) :: (p, enc x) :: E) []) W → WI (some l) 7 P assign (Ke K) N ((p, enc x) :: E) [] W)
    (hbody : ∀ (l : Nat) (pre : List α) (x : α) (W : World), Inv pre W → pre.length < m → WI (some l) 7 P body (Bd w.heap.size Kp Inv (pre ++ [x]) W) N ((p', enc x) :: (p, enc x) :: E) [] W)
    (hdone : ∀ (D : Nat) (xs : List α) (W : World), w.heap.size ≤ D → S xs → Inv xs W → W.heap[D]? = some (.deferred (some [])) → Q .normal (fr N E ({ target := .collected D, args := #[] } :: ds)) W) :
    WC P (.rangeFunc x #[p] assign body) Q N E ds w := by
  obtain ⟨fn, h1, h2, h3⟩ := hk.is
  refine ⟨wpIn_wide (n := 9).1 (wpIn_rangeFunc_ownG (F := Fence.wide) (n := 9) rfl (by decide) (fr_eval hg) trivial (fun args w => ?_) hseq hKt hKb (Below.refl _ _) (fun _ => rfl) Inv (fun _ _ _ => False) hI (fun c s W W' row h _ _ => h) h0 (fun x => fr N ((p', enc x) :: (p, enc x) :: E) []) ?_ ?_ ?_ ?_)⟩
  · have hn' : ¬ fn.name = "runtime.NumGoroutine" := by simpa using h3
    have hb' : ¬ fn.body = none := by cases h : fn.body <;> simp_all
    simp [callFunc, h1, hb', hn']
  · intro l x W K hK
    have := (hassign l x W K hK).out
    have e : ({ tmps := ((#[p].zip #[enc x]).foldl (fun t (q : Nat × Value) => t.setIfInBounds q.1 q.2) (fr N E ds).tmps), defers := [] } : Act) = fr N ((p, enc x) :: E) [] := by
      rw [← fr_put (E := E) (ds := []) (enc x) hp]
      have e2 : (#[p].zip #[enc x]) = #[(p, enc x)] := by simp
      rw [e2]
      simp [Act.put, fr]
    rw [e]
    exact wpIn_mono this (fun _ _ _ h => h.out)
  · intro l pre x W hi hlt
    exact wpIn_mono (hbody l pre x W hi hlt).out (fun _ _ _ h => h.out)
  · intro D xs W hD hS hi hK
    exact hdone D xs W hD hS hi hK
  · intro D c pre W _ _ h _
    exact h.elim

/-! ### Iterators -/
class NR (R : Ending → World → Prop) : Prop where
  no : ∀ w, ¬ R .outgrown w
instance {fn : Func} {R : Ending → World → Prop} [h : NR R] : NO (BP P fn R) := ⟨fun ⟨a, w, hh⟩ => h.no w hh.out⟩
instance {A : Ending → World → Prop} : NR (fun e w => (∃ v, e = .returned v) ∧ A e w) := ⟨fun w h => by obtain ⟨⟨v, h⟩, _⟩ := h; cases h⟩
theorem enterI {k : FuncId} {fn : Func} {c : Code} {vs : List Value} {R : Ending → World → Prop} (hf : P.funcs[k]? = some fn) (hb : fn.body = some c) (hN : fn.ntmps = N) (hl : Nat.ble vs.length N = true)
    (h : WI none n P c (BP P fn R) N (numb 0 vs) [] w) : CallsIn Fence.wide n P k vs.toArray w R := by
  have := wpIn_mono h.out (fun _ _ _ h => h.out)
  subst hN
  refine callsIn_of_wp (F := Fence.wide) hf hb trivial ?_ rfl
  have e := fr_start (N := fn.ntmps) (ds := []) vs hl
  rw [show ({ tmps := vs.toArray ++ Array.replicate (fn.ntmps - vs.toArray.size) undef, defers := [] } : Act) = fr fn.ntmps (numb 0 vs) [] from by rw [e]; rfl]
  exact this
theorem retR {fn : Func} {R : Ending → World → Prop} (hr : fn.results = #[]) (hp : R (.returned (.tuple #[])) w) : BP P fn R .ret (fr N E []) w := by
  refine ⟨⟨rfl, .tuple #[], ?_, hp⟩⟩
  rw [results_get (ts := []) (vs := []) (by rw [hr]; rfl) rfl]; rfl
theorem retRn {fn : Func} {R : Ending → World → Prop} (hr : fn.results = #[]) (hp : R (.returned (.tuple #[])) w) : BP P fn R .normal (fr N E []) w := by
  refine ⟨⟨rfl, .tuple #[], ?_, hp⟩⟩
  rw [results_get (ts := []) (vs := []) (by rw [hr]; rfl) rfl]; rfl
theorem Below.grown' {w w' : World} (h : Below w.heap.size w w') (row : Option Nat) : w.grownBy w' row := ⟨h.os, h.tape, h.output, h.size, fun k hk _ => h.block k hk⟩
/-- The world without blocks. -/
def noHeap (w : World) : World := { w with heap := #[] }
/-- What a loop's body leaves as it was: the blocks below n₀ but for M, and the variables of L. -/
structure Kn (n0 : Nat) (M : Nat → Prop) (bs : List Nat) (W W' : World) : Prop where
  os : W'.os = W.os
  tape : W'.tape = W.tape
  output : W'.output = W.output
  size : W.heap.size ≤ W'.heap.size
  block : ∀ k, k < n0 → ¬ M k → W'.heap[k]? = W.heap[k]?
  loc : ∀ k ∈ bs, W'.heap[k]? = W.heap[k]?
theorem Kn.trans {n0 : Nat} {bs : List Nat} {A B C : World} (h : Kn n0 M bs A B) (k : Kn n0 M bs B C) : Kn n0 M bs A C :=
  ⟨k.os.trans h.os, k.tape.trans h.tape, k.output.trans h.output, Nat.le_trans h.size k.size, fun i hi hn => (k.block i hi hn).trans (h.block i hi hn), fun i hi => (k.loc i hi).trans (h.loc i hi)⟩
theorem Kn.putObj {n0 : Nat} {bs : List Nat} {W : World} {l : Nat} (o' : Obj) (h0 : n0 ≤ l) (hb : ∀ b ∈ bs, b < l) : Kn n0 M bs W (W.putObj l o') :=
  ⟨rfl, rfl, rfl, by simp, fun k hk _ => World.putObj_heap_other (by omega), fun k hk => World.putObj_heap_other (by have := hb k hk; omega)⟩
/-- The iterator's state. -/
theorem hp_iter {M : Nat → Prop} {L : List Loc} {F : List (World → Prop)} (hb : Below w0.heap.size w0 w) (hL : ∀ l ∈ L, w0.heap.size ≤ l.b ∧ w.heap[l.b]? = some (.cells l.cs.toArray l.t (0, 0))) (hnd : (L.map Loc.b).Nodup) (hF : ∀ f ∈ F, Stab w0 M f) :
    Hp (noHeap w) (fun k => M k ∨ w0.heap.size ≤ k) w L [] F := by
  refine ⟨⟨rfl, rfl, rfl, Nat.zero_le _, fun b hb => by simp [noHeap] at hb⟩, fun l hl => ⟨Nat.zero_le _, (hL l hl).2⟩, by simp, hnd, by simp, by simp, fun f hf w' hs hw => ?_⟩
  refine hF f hf w' (Nat.le_trans hb.size hs) fun b hb2 hn => (hw b (Nat.lt_of_lt_of_le hb2 hb.size) fun h => ?_).trans (hb.block b hb2)
  rcases h with (h | h) | ⟨l, hl, rfl⟩ | ⟨o, ho, _⟩
  · exact hn h
  · omega
  · have := (hL l hl).1; omega
  · cases ho
theorem Hp.iter {n0 : Nat} (H : Hp w0 (fun k => M k ∨ n0 ≤ k) w L [] F) (h0 : w0.heap.size = 0) (hk : Kn n0 M (L.map Loc.b) w w') : Hp w0 (fun k => M k ∨ n0 ≤ k) w' L [] F := by
  refine ⟨⟨hk.os.trans H.below.os, hk.tape.trans H.below.tape, hk.output.trans H.below.output, by omega, fun b hb => by omega⟩, fun l hl => ⟨(H.loc l hl).1, (hk.loc l.b (List.mem_map_of_mem hl)).trans (H.loc l hl).2⟩, by simp, H.nd, H.od, by simp, fun f hf => ?_⟩
  refine (H.fact f hf).step hk.size (fun b hb hn => ?_) fun b hb => .inl hb
  exact hk.block b (Nat.lt_of_not_le fun h => hn (.inl (.inr h))) fun h => hn (.inl (.inl h))
theorem Hp.kn {W W' : World} {L' : List Loc} {O' : List Own} {F' : List (World → Prop)} {bs : List Nat} (H : Hp w0 M W L O F) (H' : Hp w0 M W' L' O' F') (hs : W.heap.size ≤ W'.heap.size) (hl : ∀ b ∈ bs, ∃ l, l ∈ L ∧ l ∈ L' ∧ l.b = b) : Kn w0.heap.size M bs W W' :=
  ⟨H'.below.os.trans H.below.os.symm, H'.below.tape.trans H.below.tape.symm, H'.below.output.trans H.below.output.symm, hs, fun k hk _ => (H'.below.block k hk).trans (H.below.block k hk).symm,
   fun b hb => by obtain ⟨l, h1, h2, rfl⟩ := hl b hb; exact (H'.loc l h2).2.trans (H.loc l h1).2.symm⟩
theorem Hp.addLoc2 (H : Hp w0 M w L O F) {l l' : Loc} (hb : Below w.heap.size w w') (hl : w.heap.size ≤ l.b) (hl' : w.heap.size ≤ l'.b) (hne : l'.b ≠ l.b) (hc : w'.heap[l.b]? = some (.cells l.cs.toArray l.t (0, 0))) (hc' : w'.heap[l'.b]? = some (.cells l'.cs.toArray l'.t (0, 0))) : Hp w0 M w' (l' :: l :: L) O F := by
  have h1 := H.addLoc hb hl hc
  have h2 := H.addLoc hb hl' hc'
  refine ⟨h1.below, fun x hx => ?_, h1.own, ?_, h1.od, ?_, fun f hf => ?_⟩
  · rcases List.mem_cons.1 hx with rfl | hx
    · exact h2.loc _ (List.mem_cons_self ..)
    · exact h1.loc _ hx
  · have n1 := h1.nd
    have n2 := h2.nd
    simp only [List.map_cons, List.nodup_cons, List.mem_cons] at n1 n2 ⊢
    refine ⟨fun q => ?_, n1⟩
    rcases q with q | q
    · exact hne q
    · exact n2.1 q
  · intro x hx o ho
    rcases List.mem_cons.1 hx with rfl | hx
    · exact h2.lo _ (List.mem_cons_self ..) o ho
    · exact h1.lo _ hx o ho
  · refine (H.fact f hf).step hb.size (fun b hb' _ => hb.block b hb') ?_
    rintro b (h1 | ⟨l', hl', rfl⟩ | h1)
    · exact .inl (.inl h1)
    · rcases List.mem_cons.1 hl' with rfl | hl'
      · exact .inr (by assumption)
      · rcases List.mem_cons.1 hl' with rfl | hl'
        · exact .inr hl
        · exact .inl (.inr (.inl ⟨l', hl', rfl⟩))
    · exact .inl (.inr (.inr h1))
end
end Go.Proofs.YtiolpldihoghiaaDoor

namespace Go.Proofs.YtiolpldihoghiaaDoor
open Go.RowKit
set_option linter.unusedVariables false
set_option linter.unusedSimpArgs false

section
variable {P : Program} {N : Nat} {E : List (Nat × Value)} {ds : List Deferred} {ops : Array Oper} {rest : List Oper} {Q Q' : Exit → Act → World → Prop} {ro : Option Nat} {n : Nat}
variable {d d1 : Nat} {o : Op} {dst : Option Tmp} {ty ty1 : TypeId} {pos pos1 : String} {af af1 : Array Edge} {w w' ws : World} {v v' q : Value} {x y z : Operand} {T T' u : TypeId} {a b : Int}
variable {w0 : World} {M : Nat → Prop} {L : List Loc} {O : List Own} {F : List (World → Prop)} {K : List (Nat × Value) → World → Prop}
/-- '[]T{x, y}'. -/
theorem s_slice2 {e sz by_ : Nat} [hT : SlTy P T e sz by_] {cs cs' : List Value} (H : Hp w0 M w L O F) (hx : Ev N E x (.agg cs.toArray)) (hy : Ev N E y (.agg cs'.toArray)) (hl : cs.length = sz) (hl' : cs'.length = sz) (hsm : Nat.ble (2 * sz) 16777216 = true) (hd : Nat.blt d N = true)
    (h : ∀ A c w', Below w.heap.size w w' → Hp w0 M w' L (⟨.slice A 2 c, e, sz, 2, cs ++ cs'⟩ :: O) F → K ((d, .slice A 2 c) :: E) w') :
    St P ops Q ⟨some d, .buildSlice T 2 #[(0, x), (1, y)], ty, pos, af, none⟩ N E ds w K := by
  obtain ⟨i, h2, h3, h4, z, h5, h6⟩ := hT.inf
  have hp := hT.pos.1
  have hsm' : ¬ 16777216 < sz * 2 := by simp at hsm; omega
  have hsm2 : ¬ 16777216 < 2 * sz := by simp at hsm; omega
  have hne : ¬ sz = 0 := by omega
  have hfill2 : ∀ A : Array Value, A.size = 2 * sz → (cs'.zipIdx.foldl (fun (cs : Array Value) (p : Value × Nat) => cs.setIfInBounds (sz + p.2) p.1) (cs.zipIdx.foldl (fun (cs : Array Value) (p : Value × Nat) => cs.setIfInBounds p.2 p.1) A)) = (cs ++ cs').toArray := by
    intro A hA
    have e1 := foldl_fill cs 0 0 A (by omega)
    simp only [Nat.zero_add] at e1
    generalize hB : (cs.zipIdx.foldl (fun (cs : Array Value) (p : Value × Nat) => cs.setIfInBounds p.2 p.1) A) = B at *
    have hBs : B.size = 2 * sz := by
      have := congrArg List.length e1
      simp at this
      omega
    apply Array.toList_inj.1
    rw [foldl_fill cs' 0 sz B (by omega), e1]
    simp [hl, hl']
    omega
  have hr : (execOp (fr N E ds).eval ⟨some d, .buildSlice T 2 #[(0, x), (1, y)], ty, pos, af, none⟩).run P w = .ok (.value (.slice (some ⟨w.heap.size, 0, none⟩) 2 2)) (w.alloc (.cells (cs ++ cs').toArray e)) := by
    have hf := hfill2 ((Array.range (2 * sz)).map (z.cells[· % z.cells.size]!)) (by simp)
    have g1 : (Value.agg cs.toArray).cells = cs.toArray := rfl
    have g2 : (Value.agg cs'.toArray).cells = cs'.toArray := rfl
    have hne2 : ¬ 2 * sz = 0 := by omega
    have hsz : (cs.zipIdx.foldl (fun (cs : Array Value) (p : Value × Nat) => cs.setIfInBounds p.2 p.1) ((Array.range (2 * sz)).map (z.cells[· % z.cells.size]!))).size = 2 * sz := by
      have e1 := foldl_fill cs 0 0 ((Array.range (2 * sz)).map (z.cells[· % z.cells.size]!)) (by simp; omega)
      simp only [Nat.zero_add] at e1
      have := congrArg List.length e1
      simp at this
      omega
    have hlt : ¬ 2 * sz < sz := by omega
    have hlt2 : ¬ 2 * sz < sz + sz := by omega
    simp [execOp, fr_eval hx, fr_eval hy, Instr.buildSlice, underlying, hT.und, run_sizeOf_ h2, h3, hsm', hsm2, hne, hne2, zeroValue, typeInfo, h2, h5, Instr.fill, hl, hl', newRow, g1, g2, hsz, hlt, hlt2]
    rw [hf]
  have hown := World.ownsRow_lit (base := w.heap.size) (e := e) (size := sz) w (cs ++ cs').toArray 2 (Nat.le_refl _) (by decide) (by simp [hl, hl']; omega)
  have hbl : Below w.heap.size w (w.alloc (.cells (cs ++ cs').toArray e)) := (Below.refl _ _).alloc (Nat.le_refl _) _
  exact s_run rfl hr (.inr ⟨_, _, rfl, rfl, hd, h _ _ _ hbl (H.own_new hbl (by simpa using hown))⟩)
theorem chunks_nils {α : Type} {dd : Rp α} {sz n : Nat} : Chunks (kSl sz dd) 1 (List.replicate n ([] : List α)) (List.replicate n (.slice none 0 0)) w := by
  refine ⟨by simp, fun i x hx => ?_⟩
  have hi := (List.getElem?_eq_some_iff.1 hx).1
  rw [List.length_replicate] at hi
  rw [List.getElem?_replicate, if_pos hi] at hx
  injection hx with hx; subst hx
  have e : (List.replicate n (Value.slice none 0 0)).drop (i * 1) = .slice none 0 0 :: List.replicate (n - (i + 1)) (.slice none 0 0) := by
    rw [Nat.mul_one, List.drop_replicate, show n - i = (n - (i + 1)) + 1 from by omega, List.replicate_succ]
  rw [e]
  exact ⟨none, 0, rfl, Nat.le_refl _, by omega, Row.nil⟩
theorem chunks_two {α : Type} {dd : Rp α} {sz : Nat} {p1 p2 : α} {c1 c2 : List Value} (h1 : dd w p1 c1) (h2 : dd w p2 c2) (l1 : c1.length = sz) (l2 : c2.length = sz) : Chunks dd sz [p1, p2] (c1 ++ c2) w :=
  ((Chunks.nil (d := dd) (sz := sz)).snoc h1 l1).snoc h2 l2
/-! ### A guard whose own guard has passed it over -/
theorem wanted_undef {i d' : Nat} {b : Bool} (hd : ((ops[i]?).bind (·.dst)) = some d') (hN : Nat.blt d' N = true) (hv : get E d' = undef) : Region.wanted ⟨dst, o, ty, pos, af, some (i, b)⟩ (yielded ops (fr N E ds).tmps) = false := by
  have h1 : d' < N := by simpa using hN
  simp only [Region.wanted, yielded, hd, Option.bind_some, fr]
  rw [Array.getElem?_eq_getElem (by simpa using h1), Array.getElem_ofFn, hv]
  rfl
theorem l_skipu {i d' : Nat} {b : Bool} (hg : ((ops[i]?).bind (·.dst)) = some d') (hN : Nat.blt d' N = true) (hv : get E d' = undef) (hd : Nat.blt d N = true) (h : WL P ops Q rest N ((d, undef) :: E) ds w) :
    WL P ops Q (⟨some d, o, ty, pos, af, some (i, b)⟩ :: rest) N E ds w := by
  refine ⟨wpList_step fun K hK => ?_⟩
  rw [if_neg (by rw [wanted_undef hg hN hv]; simp)]
  rw [fr_put undef hd]
  exact hK _ _ h.out
theorem q_skipu {Q1 : Act → Prop} {i d' : Nat} {b : Bool} (hg : ((ops[i]?).bind (·.dst)) = some d') (hN : Nat.blt d' N = true) (hv : get E d' = undef) (hd : Nat.blt d N = true)
    (h : WQ P ops Q1 rest N ((d, undef) :: E) ds w) : WQ P ops Q1 (⟨some d, o, ty, pos, af, some (i, b)⟩ :: rest) N E ds w := by
  refine ⟨wpQuiet_step fun K hK => ?_⟩
  rw [if_neg (by rw [wanted_undef hg hN hv]; simp)]
  rw [fr_put undef hd]; exact hK _ h.out
end
end Go.Proofs.YtiolpldihoghiaaDoor

namespace Go.Proofs.YtiolpldihoghiaaDoor
open Go.RowKit
set_option linter.unusedVariables false
set_option linter.unusedSimpArgs false

section
variable {P : Program} {N : Nat} {E : List (Nat × Value)} {ds : List Deferred}
variable {dst : Option Tmp} {ty : TypeId} {pos : String} {af : Array Edge} {g : Option (Nat × Bool)} {w w' : World} {v : Value} {x y z : Operand} {T : TypeId} {a b : Int} {M : Nat → Prop}
def subA (A : Option Addr) (l sz c : Nat) : Option Addr := if c = l then A else A.map fun a => a.add (l * sz)
theorem rd_slice2 {e sz by_ : Nat} [hT : SlTy P T e sz by_] {A : Option Addr} {n c l m : Nat} {k k' : IntKind} (hx : Ev N E x (.slice A n c)) (hlo : Ev N E y (.int k a)) (hhi : Ev N E z (.int k' b)) (e1 : a = (l : Int)) (e2 : b = ((l + m : Nat) : Int)) (h2 : l + m ≤ c) :
    Rd P ⟨dst, .slice T x (some y) (some z) none, ty, pos, af, g⟩ N E w (.slice (subA A l sz c) m (c - l)) := by
  obtain ⟨ii, q1, q2, _⟩ := hT.inf
  subst e1; subst e2
  refine ⟨fun ds w' hw => ?_⟩
  have e3 : l ≤ l + m := by omega
  simp [execOp, fr_eval hx, fr_eval hlo, fr_eval hhi, Instr.sliceAt, Instr.slice, Instr.sliceBounds, Instr.sliceBound, asIntOf, underlying, hT.und, run_sizeOf_ q1, q2, h2, e3, subA]
  have h3 : (l : Int) + (m : Int) ≤ (c : Int) := by omega
  have h4 : (0 : Int) ≤ (l : Int) + (m : Int) := by omega
  have h5 : ((l : Int) + (m : Int)).toNat = l + m := by omega
  simp [h3, h4, h5, e3]
theorem Stab.sub {α : Type} {dd : Rp α} {sz : Nat} {A : Option Addr} {xs : List α} (h : Stab w M (Row dd sz A xs)) {l m c : Nat} (hl : l + m ≤ xs.length) (hc : xs.length ≤ c) : Stab w M (Row dd sz (subA A l sz c) ((xs.drop l).take m)) := fun w' hs hw => by
  have hr := h w' hs hw
  refine ⟨by rw [List.length_take, List.length_drop]; have := hr.len; omega, fun hne => ?_⟩
  have hm : m ≠ 0 := by intro e; subst e; simp at hne
  have hx : xs ≠ [] := by intro e; subst e; simp at hl; omega
  obtain ⟨a, rfl, hall⟩ := hr.at_ hx
  refine ⟨a.add (l * sz), ?_, fun i x hi => ?_⟩
  · unfold subA; rw [if_neg (by omega)]; rfl
  · rw [List.getElem?_take] at hi
    split at hi
    · rw [List.getElem?_drop] at hi
      obtain ⟨cs, h1, h2, h3⟩ := hall _ x hi
      refine ⟨cs, h1, h2, fun j u hu => ?_⟩
      rw [add_add, show l * sz + (i * sz + j) = (l + i) * sz + j from by rw [Nat.add_mul]; omega]
      exact h3 j u hu
    · cases hi
end
end Go.Proofs.YtiolpldihoghiaaDoor

namespace Go.Proofs.YtiolpldihoghiaaDoor
open Go.RowKit
set_option linter.unusedVariables false
set_option linter.unusedSimpArgs false

section
variable {P : Program} {N : Nat} {E : List (Nat × Value)} {ds : List Deferred} {ops : Array Oper} {rest : List Oper} {Q Q' : Exit → Act → World → Prop}
variable {d : Nat} {o : Op} {dst : Option Tmp} {ty : TypeId} {pos : String} {af : Array Edge} {g : Option (Nat × Bool)} {w w' : World} {v v' : Value} {x y z : Operand} {T u : TypeId} {a b : Int}
variable {md : Region.Mode} {S : World → Prop} {B : Nat → Bool}
theorem anyM_first1 (desc : Nat → Bool) {i : Nat} {oi : Oper} {v : Value} (hi : ops[i]? = some oi) (hsel : ∀ (j : Nat) (o : Oper) cs b, ops[j]? = some o → o.op ≠ .select cs b)
    (hQ : ∀ c a w, Q (.panic c) (a.put oi.dst v) w → Q (.panic c) a w) (hd : ∀ j oj, ops[j]? = some oj → desc j = true → ∃ e ∈ oj.after, Region.binds md e = true ∧ (e.on = i ∨ desc e.on = true)) : ∀ (f : Nat) (li : Array Bool) (a : Act) (w : World),
    (∀ j oj, ops[j]? = some oj → j ≠ i → li.getD j true = false → (∀ e ∈ oj.after, Region.binds md e = true → e.on ≠ i) → oi.apart ops oj = true) →
    (∀ j oj, ops[j]? = some oj → j ≠ i → li.getD j true = false → desc j = false → B j = false) → (∀ j, desc j = true → li.getD j true = false) →
    i ∈ Region.ready md ops li → YieldsIf P ops S oi v a → S w → anyM P md ops Q B S f (li.setIfInBounds i true) (a.put oi.dst v) w → anyM P md ops Q B S (f + 1) li a w := by
  intro f
  induction f with
  | zero =>
    intro li a w _ _ _ hr hy hS H
    refine ⟨fun h => (by rw [h] at hr; cases hr), fun j hj => ?_⟩
    by_cases hji : j = i
    · subst hji; exact hy.wpOp hi hS ⟨fun _ h => h, H⟩
    · have := ready_mono hj hji
      rw [H.1] at this
      cases this
  | succ f ih =>
    intro li a w hfree hB hun hr hy hS H
    refine ⟨fun h => (by rw [h] at hr; cases hr), fun j hj => ?_⟩
    by_cases hji : j = i
    · subst hji; exact hy.wpOp hi hS ⟨fun _ h => h, H⟩
    · have h1 := H.2 j (ready_mono hj hji)
      obtain ⟨hjun, oj, hoj, hall⟩ := mem_ready.1 hj
      have hiun := (mem_ready.1 hr).1
      have hnot : ∀ e ∈ oj.after, Region.binds md e = true → e.on ≠ i := by
        intro e he hb heq
        have h2 := hall e he hb
        rw [heq, getD_both hiun] at h2
        cases h2
      have hnd : desc j = false := by
        cases hdj : desc j with
        | false => rfl
        | true =>
          obtain ⟨e, he, hb, h | h⟩ := hd j oj hoj hdj
          · exact absurd h (hnot e he hb)
          · have h2 := hall e he hb
            rw [getD_both (hun _ h)] at h2
            cases h2
      have hap := hfree j oj hoj hji hjun hnot
      have hBj := hB j oj hoj hji hjun hnd
      have h2 := wpOp_putIf hoj hap (fun cs b => hsel i oi cs b hi) (fun cs b => hsel j oj cs b hoj) hQ hy h1
      have hr' : i ∈ Region.ready md ops (li.setIfInBounds j true) := ready_mono hr (Ne.symm hji)
      have hback : ∀ k, (li.setIfInBounds j true).getD k true = false → li.getD k true = false := fun k hk => by
        by_cases hjk : j = k
        · subst hjk; exact hjun
        · rw [getD_set_ne true hjk] at hk; exact hk
      have hun' : ∀ k, desc k = true → (li.setIfInBounds j true).getD k true = false := fun k hk => by
        have hjk : j ≠ k := by intro e; subst e; rw [hnd] at hk; cases hk
        rw [getD_set_ne true hjk]; exact hun k hk
      refine wpOp_mono (fun a' w' h3 => ?_) h2
      obtain ⟨hy', hS', hM'⟩ := h3
      refine ⟨hS', ih (li.setIfInBounds j true) a' w' (fun k ok hk hki hu hno => hfree k ok hk hki (hback k hu) hno) (fun k ok hk hki hu hdk => hB k ok hk hki (hback k hu) hdk) hun' hr' hy' (hS' hBj hS) ?_⟩
      rw [Array.setIfInBounds_comm _ _ hji]
      exact hM'
/-- Those that come behind i by a chain of edges. -/
def descL (ops : Array Oper) (i : Nat) : List Nat := (List.range ops.size).foldl (fun D j => match ops[j]? with
  | some oj => if oj.after.any (fun e => Region.binds .any e && (e.on == i || D.contains e.on)) then j :: D else D
  | none => D) []
def okDesc (ops : Array Oper) (D : List Nat) (li : List Bool) (i : Nat) : Bool := D.all fun j => !li.toArray.getD j true && match ops[j]? with
  | some oj => oj.after.any fun e => Region.binds .any e && (e.on == i || D.contains e.on)
  | none => false
def okFirst2 (ops : Array Oper) (B : List Nat) (li : List Bool) (i : Nat) : Bool :=
  okPure ops li i && okDesc ops (descL ops i) li i && (List.range ops.size).all fun j => j == i || li.toArray.getD j true || !B.elem j || (descL ops i).contains j
theorem m_take2 {ws : World} {f i : Nat} {li : List Bool} {B : List Nat} {oo : Oper} (hi : ops[i]? = some oo) (hk : okFirst2 ops B li i = true) (hy : YieldsIf P ops (fun w' => Below ws.heap.size ws w') oo v (fr N E ds)) (hS : Below ws.heap.size ws w)
    (h : anyM P .any ops (NP Q) (fun i => B.elem i) (fun w' => Below ws.heap.size ws w') f (li.set i true).toArray ((fr N E ds).put oo.dst v) w) : WM P ops Q B ws (f + 1) li N E ds w := by
  simp only [okFirst2, okPure, Bool.and_eq_true] at hk
  obtain ⟨⟨⟨⟨h1, h2⟩, h3⟩, hD⟩, h4⟩ := hk
  generalize descL ops i = D at *
  have hD1 : ∀ j, D.contains j = true → li.toArray.getD j true = false ∧ ∃ oj, ops[j]? = some oj ∧ ∃ e ∈ oj.after, Region.binds .any e = true ∧ (e.on = i ∨ D.contains e.on = true) := fun j hj => by
    have := List.all_eq_true.1 hD j (by simpa using hj)
    simp only [Bool.and_eq_true, Bool.not_eq_true'] at this
    refine ⟨this.1, ?_⟩
    have h5 := this.2
    split at h5
    · rename_i oj hoj
      obtain ⟨e, he, hb⟩ := Array.any_eq_true'.1 h5
      simp only [Bool.and_eq_true, Bool.or_eq_true, beq_iff_eq] at hb
      exact ⟨oj, hoj, e, he, hb.1, hb.2⟩
    · cases h5
  refine ⟨anyM_first1 (fun j => D.contains j) hi (Region.noSelect_spec h1) (fun c a w hq => hq.out.elim) (fun j oj hj hd => ?_) f li.toArray _ w (fun j oj hj hne hun hno => Region.free_spec hi h3 j oj hj hne hun hno) ?_ (fun j hd => (hD1 j hd).1) (by simpa [rdy] using h2) hy hS (by simpa using h)⟩
  · obtain ⟨oj', hj', h6⟩ := (hD1 j hd).2
    rw [hj] at hj'; injection hj' with hj'; subst hj'
    exact h6
  · intro j oj hj hne hun hnd
    have hj' := List.all_eq_true.1 h4 j (List.mem_range.2 (Array.getElem?_eq_some_iff.1 hj).1)
    simp only [Bool.or_eq_true, beq_iff_eq, hne, false_or, hun, Bool.false_eq_true, Bool.not_eq_true'] at hj'
    rcases hj' with hj' | hj'
    · exact hj'
    · simp only [hj'] at hnd; cases hnd
theorem m_rd2 {ws : World} {f : Nat} {li : List Bool} {B : List Nat} {i : Nat} (hi : ops[i]? = some ⟨some d, o, ty, pos, af, none⟩) (hk : okFirst2 ops B li i = true) (hS : Below ws.heap.size ws w) (hr : Rd P ⟨some d, o, ty, pos, af, none⟩ N E ws v) (hd : Nat.blt d N = true)
    (h : WM P ops Q B ws f (li.set i true) N ((d, v) :: E) ds w) : WM P ops Q B ws (f + 1) li N E ds w :=
  m_take2 hi hk (yieldsIf_rd rfl (fun w' hw' => hw'.block) hr) hS (by have := h.out; rwa [← fr_put v hd] at this)
end
end Go.Proofs.YtiolpldihoghiaaDoor

namespace Go.Proofs.YtiolpldihoghiaaDoor
open Go.RowKit

instance : ScT Tryd.prog 1 := scT (by kernel_rfl) (by kernel_rfl)
instance : ZrT Tryd.prog 1 (List.replicate 1 .nilFunc) := zrT (by kernel_rfl)
instance : ZrT Tryd.prog 1 [.nilFunc] := zrT (by kernel_rfl)
instance : ScT Tryd.prog 2 := scT (by kernel_rfl) (by kernel_rfl)
instance : KdT Tryd.prog 2 .i64 := ⟨by kernel_rfl⟩
instance : ZrT Tryd.prog 2 (List.replicate 1 (.int .i64 0)) := zrT (by kernel_rfl)
instance : ZrT Tryd.prog 2 [(.int .i64 0)] := zrT (by kernel_rfl)
instance : ScT Tryd.prog 3 := scT (by kernel_rfl) (by kernel_rfl)
instance : KdT Tryd.prog 3 .i64 := ⟨by kernel_rfl⟩
instance : ZrT Tryd.prog 3 (List.replicate 1 (.int .i64 0)) := zrT (by kernel_rfl)
instance : ZrT Tryd.prog 3 [(.int .i64 0)] := zrT (by kernel_rfl)
instance : ScT Tryd.prog 4 := scT (by kernel_rfl) (by kernel_rfl)
instance : ZrT Tryd.prog 4 (List.replicate 1 (.bool false)) := zrT (by kernel_rfl)
instance : ZrT Tryd.prog 4 [(.bool false)] := zrT (by kernel_rfl)
instance : ScT Tryd.prog 5 := scT (by kernel_rfl) (by kernel_rfl)
instance : KdT Tryd.prog 5 .u8 := ⟨by kernel_rfl⟩
instance : ZrT Tryd.prog 5 (List.replicate 1 (.int .u8 0)) := zrT (by kernel_rfl)
instance : ZrT Tryd.prog 5 [(.int .u8 0)] := zrT (by kernel_rfl)
instance : AgT Tryd.prog 7 4 := agT (by kernel_rfl) (by kernel_rfl)
instance : BdT Tryd.prog 7 [0, 1, 2, 3] [(.int .i64 0), (.int .i64 0), (.bool false), (.int .u8 0)] := bdStruct (by kernel_rfl) (by kernel_rfl) (by decide)
instance : FdT Tryd.prog 7 0 0 := fdT (u := 2) (by kernel_rfl) (by kernel_rfl)
instance : FdT Tryd.prog 7 1 1 := fdT (u := 3) (by kernel_rfl) (by kernel_rfl)
instance : FdT Tryd.prog 7 2 2 := fdT (u := 4) (by kernel_rfl) (by kernel_rfl)
instance : FdT Tryd.prog 7 3 3 := fdT (u := 6) (by kernel_rfl) (by kernel_rfl)
instance : ZrT Tryd.prog 7 [(.int .i64 0), (.int .i64 0), (.bool false), (.int .u8 0)] := zrT (by kernel_rfl)
instance : ScT Tryd.prog 9 := scT (by kernel_rfl) (by kernel_rfl)
instance : ZrT Tryd.prog 9 (List.replicate 1 (.string ⟨#[]⟩)) := zrT (by kernel_rfl)
instance : ZrT Tryd.prog 9 [(.string ⟨#[]⟩)] := zrT (by kernel_rfl)
instance : ScT Tryd.prog 12 := scT (by kernel_rfl) (by kernel_rfl)
instance : KdT Tryd.prog 12 .u64 := ⟨by kernel_rfl⟩
instance : ZrT Tryd.prog 12 (List.replicate 1 (.int .u64 0)) := zrT (by kernel_rfl)
instance : ZrT Tryd.prog 12 [(.int .u64 0)] := zrT (by kernel_rfl)
instance : AgT Tryd.prog 13 2 := agT (by kernel_rfl) (by kernel_rfl)
instance : BdT Tryd.prog 13 [0, 1] [(.string ⟨#[]⟩), (.int .u64 0)] := bdStruct (by kernel_rfl) (by kernel_rfl) (by decide)
instance : FdT Tryd.prog 13 0 0 := fdT (u := 9) (by kernel_rfl) (by kernel_rfl)
instance : FdT Tryd.prog 13 1 1 := fdT (u := 12) (by kernel_rfl) (by kernel_rfl)
instance : ZrT Tryd.prog 13 [(.string ⟨#[]⟩), (.int .u64 0)] := zrT (by kernel_rfl)
instance : ScT Tryd.prog 15 := scT (by kernel_rfl) (by kernel_rfl)
instance : ZrT Tryd.prog 15 (List.replicate 1 (.pointer none)) := zrT (by kernel_rfl)
instance : ZrT Tryd.prog 15 [(.pointer none)] := zrT (by kernel_rfl)
instance : ScT Tryd.prog 16 := scT (by kernel_rfl) (by kernel_rfl)
instance : ZrT Tryd.prog 16 (List.replicate 1 (.pointer none)) := zrT (by kernel_rfl)
instance : ZrT Tryd.prog 16 [(.pointer none)] := zrT (by kernel_rfl)
instance : AgT Tryd.prog 18 1 := agT (by kernel_rfl) (by kernel_rfl)
instance : BdT Tryd.prog 18 [0] [(.pointer none)] := bdStruct (by kernel_rfl) (by kernel_rfl) (by decide)
instance : FdT Tryd.prog 18 0 0 := fdT (u := 17) (by kernel_rfl) (by kernel_rfl)
instance : ZrT Tryd.prog 18 (List.replicate 1 (.pointer none)) := zrT (by kernel_rfl)
instance : ZrT Tryd.prog 18 [(.pointer none)] := zrT (by kernel_rfl)
instance : ScT Tryd.prog 20 := scT (by kernel_rfl) (by kernel_rfl)
instance : ZrT Tryd.prog 20 (List.replicate 1 .nilIface) := zrT (by kernel_rfl)
instance : ZrT Tryd.prog 20 [.nilIface] := zrT (by kernel_rfl)
instance : ScT Tryd.prog 21 := scT (by kernel_rfl) (by kernel_rfl)
instance : KdT Tryd.prog 21 .i32 := ⟨by kernel_rfl⟩
instance : ZrT Tryd.prog 21 (List.replicate 1 (.int .i32 0)) := zrT (by kernel_rfl)
instance : ZrT Tryd.prog 21 [(.int .i32 0)] := zrT (by kernel_rfl)
instance : SlTy Tryd.prog 22 98 3 24 := slTy (by kernel_rfl) (by kernel_rfl) (by decide)
instance : ScT Tryd.prog 22 := scT (by kernel_rfl) (by kernel_rfl)
instance : ZrT Tryd.prog 22 (List.replicate 1 (.slice none 0 0)) := zrT (by kernel_rfl)
instance : ZrT Tryd.prog 22 [(.slice none 0 0)] := zrT (by kernel_rfl)
instance : SlTy Tryd.prog 23 65 2 32 := slTy (by kernel_rfl) (by kernel_rfl) (by decide)
instance : ScT Tryd.prog 23 := scT (by kernel_rfl) (by kernel_rfl)
instance : ZrT Tryd.prog 23 (List.replicate 1 (.slice none 0 0)) := zrT (by kernel_rfl)
instance : ZrT Tryd.prog 23 [(.slice none 0 0)] := zrT (by kernel_rfl)
instance : SlTy Tryd.prog 24 61 1 24 := slTy (by kernel_rfl) (by kernel_rfl) (by decide)
instance : ScT Tryd.prog 24 := scT (by kernel_rfl) (by kernel_rfl)
instance : ZrT Tryd.prog 24 (List.replicate 1 (.slice none 0 0)) := zrT (by kernel_rfl)
instance : ZrT Tryd.prog 24 [(.slice none 0 0)] := zrT (by kernel_rfl)
instance : SlTy Tryd.prog 25 61 1 24 := slTy (by kernel_rfl) (by kernel_rfl) (by decide)
instance : ScT Tryd.prog 25 := scT (by kernel_rfl) (by kernel_rfl)
instance : ZrT Tryd.prog 25 (List.replicate 1 (.slice none 0 0)) := zrT (by kernel_rfl)
instance : ZrT Tryd.prog 25 [(.slice none 0 0)] := zrT (by kernel_rfl)
instance : AgT Tryd.prog 26 4 := agT (by kernel_rfl) (by kernel_rfl)
instance : BdT Tryd.prog 26 [0, 1, 2, 3] [(.int .i64 0), (.slice none 0 0), (.slice none 0 0), (.slice none 0 0)] := bdStruct (by kernel_rfl) (by kernel_rfl) (by decide)
instance : FdT Tryd.prog 26 0 0 := fdT (u := 3) (by kernel_rfl) (by kernel_rfl)
instance : FdT Tryd.prog 26 1 1 := fdT (u := 22) (by kernel_rfl) (by kernel_rfl)
instance : FdT Tryd.prog 26 2 2 := fdT (u := 23) (by kernel_rfl) (by kernel_rfl)
instance : FdT Tryd.prog 26 3 3 := fdT (u := 25) (by kernel_rfl) (by kernel_rfl)
instance : ZrT Tryd.prog 26 [(.int .i64 0), (.slice none 0 0), (.slice none 0 0), (.slice none 0 0)] := zrT (by kernel_rfl)
instance : AgT Tryd.prog 27 4 := agT (by kernel_rfl) (by kernel_rfl)
instance : BdT Tryd.prog 27 [0, 1, 2, 3] [(.int .i64 0), (.slice none 0 0), (.slice none 0 0), (.slice none 0 0)] := bdStruct (by kernel_rfl) (by kernel_rfl) (by decide)
instance : FdT Tryd.prog 27 0 0 := fdT (u := 3) (by kernel_rfl) (by kernel_rfl)
instance : FdT Tryd.prog 27 1 1 := fdT (u := 22) (by kernel_rfl) (by kernel_rfl)
instance : FdT Tryd.prog 27 2 2 := fdT (u := 23) (by kernel_rfl) (by kernel_rfl)
instance : FdT Tryd.prog 27 3 3 := fdT (u := 25) (by kernel_rfl) (by kernel_rfl)
instance : ZrT Tryd.prog 27 [(.int .i64 0), (.slice none 0 0), (.slice none 0 0), (.slice none 0 0)] := zrT (by kernel_rfl)
instance : ScT Tryd.prog 28 := scT (by kernel_rfl) (by kernel_rfl)
instance : ZrT Tryd.prog 28 (List.replicate 1 .nilFunc) := zrT (by kernel_rfl)
instance : ZrT Tryd.prog 28 [.nilFunc] := zrT (by kernel_rfl)
instance : ScT Tryd.prog 29 := scT (by kernel_rfl) (by kernel_rfl)
instance : ZrT Tryd.prog 29 (List.replicate 1 .nilFunc) := zrT (by kernel_rfl)
instance : ZrT Tryd.prog 29 [.nilFunc] := zrT (by kernel_rfl)
instance : SlTy Tryd.prog 30 68 1 24 := slTy (by kernel_rfl) (by kernel_rfl) (by decide)
instance : ScT Tryd.prog 30 := scT (by kernel_rfl) (by kernel_rfl)
instance : ZrT Tryd.prog 30 (List.replicate 1 (.slice none 0 0)) := zrT (by kernel_rfl)
instance : ZrT Tryd.prog 30 [(.slice none 0 0)] := zrT (by kernel_rfl)
instance : ScT Tryd.prog 31 := scT (by kernel_rfl) (by kernel_rfl)
instance : KdT Tryd.prog 31 .i64 := ⟨by kernel_rfl⟩
instance : ZrT Tryd.prog 31 (List.replicate 1 (.int .i64 0)) := zrT (by kernel_rfl)
instance : ZrT Tryd.prog 31 [(.int .i64 0)] := zrT (by kernel_rfl)
instance : ScT Tryd.prog 33 := scT (by kernel_rfl) (by kernel_rfl)
instance : ZrT Tryd.prog 33 (List.replicate 1 .nilFunc) := zrT (by kernel_rfl)
instance : ZrT Tryd.prog 33 [.nilFunc] := zrT (by kernel_rfl)
instance : ScT Tryd.prog 35 := scT (by kernel_rfl) (by kernel_rfl)
instance : ZrT Tryd.prog 35 (List.replicate 1 .nilFunc) := zrT (by kernel_rfl)
instance : ZrT Tryd.prog 35 [.nilFunc] := zrT (by kernel_rfl)
instance : ScT Tryd.prog 36 := scT (by kernel_rfl) (by kernel_rfl)
instance : ZrT Tryd.prog 36 (List.replicate 1 .nilFunc) := zrT (by kernel_rfl)
instance : ZrT Tryd.prog 36 [.nilFunc] := zrT (by kernel_rfl)
instance : ScT Tryd.prog 37 := scT (by kernel_rfl) (by kernel_rfl)
instance : ZrT Tryd.prog 37 (List.replicate 1 .nilFunc) := zrT (by kernel_rfl)
instance : ZrT Tryd.prog 37 [.nilFunc] := zrT (by kernel_rfl)
instance : ScT Tryd.prog 38 := scT (by kernel_rfl) (by kernel_rfl)
instance : ZrT Tryd.prog 38 (List.replicate 1 .nilFunc) := zrT (by kernel_rfl)
instance : ZrT Tryd.prog 38 [.nilFunc] := zrT (by kernel_rfl)
instance : ScT Tryd.prog 39 := scT (by kernel_rfl) (by kernel_rfl)
instance : ZrT Tryd.prog 39 (List.replicate 1 .nilFunc) := zrT (by kernel_rfl)
instance : ZrT Tryd.prog 39 [.nilFunc] := zrT (by kernel_rfl)
instance : SlTy Tryd.prog 40 3 1 8 := slTy (by kernel_rfl) (by kernel_rfl) (by decide)
instance : ScT Tryd.prog 40 := scT (by kernel_rfl) (by kernel_rfl)
instance : ZrT Tryd.prog 40 (List.replicate 1 (.slice none 0 0)) := zrT (by kernel_rfl)
instance : ZrT Tryd.prog 40 [(.slice none 0 0)] := zrT (by kernel_rfl)
instance : AgT Tryd.prog 41 3 := agT (by kernel_rfl) (by kernel_rfl)
instance : BdT Tryd.prog 41 [0, 1, 2] [(.int .i64 0), (.int .i64 0), (.slice none 0 0)] := bdStruct (by kernel_rfl) (by kernel_rfl) (by decide)
instance : FdT Tryd.prog 41 0 0 := fdT (u := 3) (by kernel_rfl) (by kernel_rfl)
instance : FdT Tryd.prog 41 1 1 := fdT (u := 3) (by kernel_rfl) (by kernel_rfl)
instance : FdT Tryd.prog 41 2 2 := fdT (u := 40) (by kernel_rfl) (by kernel_rfl)
instance : ZrT Tryd.prog 41 [(.int .i64 0), (.int .i64 0), (.slice none 0 0)] := zrT (by kernel_rfl)
instance : AgT Tryd.prog 42 3 := agT (by kernel_rfl) (by kernel_rfl)
instance : BdT Tryd.prog 42 [0, 1, 2] [(.int .i64 0), (.int .i64 0), (.slice none 0 0)] := bdStruct (by kernel_rfl) (by kernel_rfl) (by decide)
instance : FdT Tryd.prog 42 0 0 := fdT (u := 3) (by kernel_rfl) (by kernel_rfl)
instance : FdT Tryd.prog 42 1 1 := fdT (u := 3) (by kernel_rfl) (by kernel_rfl)
instance : FdT Tryd.prog 42 2 2 := fdT (u := 40) (by kernel_rfl) (by kernel_rfl)
instance : ZrT Tryd.prog 42 [(.int .i64 0), (.int .i64 0), (.slice none 0 0)] := zrT (by kernel_rfl)
instance : SlTy Tryd.prog 43 100 3 40 := slTy (by kernel_rfl) (by kernel_rfl) (by decide)
instance : ScT Tryd.prog 43 := scT (by kernel_rfl) (by kernel_rfl)
instance : ZrT Tryd.prog 43 (List.replicate 1 (.slice none 0 0)) := zrT (by kernel_rfl)
instance : ZrT Tryd.prog 43 [(.slice none 0 0)] := zrT (by kernel_rfl)
instance : AgT Tryd.prog 44 5 := agT (by kernel_rfl) (by kernel_rfl)
instance : BdT Tryd.prog 44 [0, 1, 2, 3, 4] [(.int .i64 0), (.int .i64 0), (.int .i64 0), (.slice none 0 0), (.slice none 0 0)] := bdStruct (by kernel_rfl) (by kernel_rfl) (by decide)
instance : FdT Tryd.prog 44 0 0 := fdT (u := 3) (by kernel_rfl) (by kernel_rfl)
instance : FdT Tryd.prog 44 1 1 := fdT (u := 3) (by kernel_rfl) (by kernel_rfl)
instance : FdT Tryd.prog 44 2 2 := fdT (u := 3) (by kernel_rfl) (by kernel_rfl)
instance : FdT Tryd.prog 44 3 3 := fdT (u := 40) (by kernel_rfl) (by kernel_rfl)
instance : FdT Tryd.prog 44 4 4 := fdT (u := 43) (by kernel_rfl) (by kernel_rfl)
instance : ZrT Tryd.prog 44 [(.int .i64 0), (.int .i64 0), (.int .i64 0), (.slice none 0 0), (.slice none 0 0)] := zrT (by kernel_rfl)
instance : AgT Tryd.prog 45 5 := agT (by kernel_rfl) (by kernel_rfl)
instance : BdT Tryd.prog 45 [0, 1, 2, 3, 4] [(.int .i64 0), (.int .i64 0), (.int .i64 0), (.slice none 0 0), (.slice none 0 0)] := bdStruct (by kernel_rfl) (by kernel_rfl) (by decide)
instance : FdT Tryd.prog 45 0 0 := fdT (u := 3) (by kernel_rfl) (by kernel_rfl)
instance : FdT Tryd.prog 45 1 1 := fdT (u := 3) (by kernel_rfl) (by kernel_rfl)
instance : FdT Tryd.prog 45 2 2 := fdT (u := 3) (by kernel_rfl) (by kernel_rfl)
instance : FdT Tryd.prog 45 3 3 := fdT (u := 40) (by kernel_rfl) (by kernel_rfl)
instance : FdT Tryd.prog 45 4 4 := fdT (u := 43) (by kernel_rfl) (by kernel_rfl)
instance : ZrT Tryd.prog 45 [(.int .i64 0), (.int .i64 0), (.int .i64 0), (.slice none 0 0), (.slice none 0 0)] := zrT (by kernel_rfl)
instance : ScT Tryd.prog 47 := scT (by kernel_rfl) (by kernel_rfl)
instance : ZrT Tryd.prog 47 (List.replicate 1 .nilFunc) := zrT (by kernel_rfl)
instance : ZrT Tryd.prog 47 [.nilFunc] := zrT (by kernel_rfl)
instance : ScT Tryd.prog 49 := scT (by kernel_rfl) (by kernel_rfl)
instance : ZrT Tryd.prog 49 (List.replicate 1 .nilFunc) := zrT (by kernel_rfl)
instance : ZrT Tryd.prog 49 [.nilFunc] := zrT (by kernel_rfl)
instance : ScT Tryd.prog 50 := scT (by kernel_rfl) (by kernel_rfl)
instance : ZrT Tryd.prog 50 (List.replicate 1 .nilFunc) := zrT (by kernel_rfl)
instance : ZrT Tryd.prog 50 [.nilFunc] := zrT (by kernel_rfl)
instance : ScT Tryd.prog 51 := scT (by kernel_rfl) (by kernel_rfl)
instance : ZrT Tryd.prog 51 (List.replicate 1 .nilFunc) := zrT (by kernel_rfl)
instance : ZrT Tryd.prog 51 [.nilFunc] := zrT (by kernel_rfl)
instance : AgT Tryd.prog 52 2 := agT (by kernel_rfl) (by kernel_rfl)
instance : BdT Tryd.prog 52 (List.range 2) [(.slice none 0 0), (.slice none 0 0)] := bdArray (n := 2) (e := 43) (by kernel_rfl) (by kernel_rfl) rfl (by kernel_rfl) rfl
instance : ZrT Tryd.prog 52 (List.replicate 2 (.slice none 0 0)) := zrT (by kernel_rfl)
instance : ZrT Tryd.prog 52 [(.slice none 0 0), (.slice none 0 0)] := zrT (by kernel_rfl)
instance : ScT Tryd.prog 53 := scT (by kernel_rfl) (by kernel_rfl)
instance : ZrT Tryd.prog 53 (List.replicate 1 .nilFunc) := zrT (by kernel_rfl)
instance : ZrT Tryd.prog 53 [.nilFunc] := zrT (by kernel_rfl)
instance : ScT Tryd.prog 55 := scT (by kernel_rfl) (by kernel_rfl)
instance : ZrT Tryd.prog 55 (List.replicate 1 .nilFunc) := zrT (by kernel_rfl)
instance : ZrT Tryd.prog 55 [.nilFunc] := zrT (by kernel_rfl)
instance : ScT Tryd.prog 56 := scT (by kernel_rfl) (by kernel_rfl)
instance : ZrT Tryd.prog 56 (List.replicate 1 .nilFunc) := zrT (by kernel_rfl)
instance : ZrT Tryd.prog 56 [.nilFunc] := zrT (by kernel_rfl)
instance : ScT Tryd.prog 58 := scT (by kernel_rfl) (by kernel_rfl)
instance : ZrT Tryd.prog 58 (List.replicate 1 .nilFunc) := zrT (by kernel_rfl)
instance : ZrT Tryd.prog 58 [.nilFunc] := zrT (by kernel_rfl)
instance : ScT Tryd.prog 59 := scT (by kernel_rfl) (by kernel_rfl)
instance : ZrT Tryd.prog 59 (List.replicate 1 .nilFunc) := zrT (by kernel_rfl)
instance : ZrT Tryd.prog 59 [.nilFunc] := zrT (by kernel_rfl)
instance : ScT Tryd.prog 60 := scT (by kernel_rfl) (by kernel_rfl)
instance : ZrT Tryd.prog 60 (List.replicate 1 .nilFunc) := zrT (by kernel_rfl)
instance : ZrT Tryd.prog 60 [.nilFunc] := zrT (by kernel_rfl)
instance : SlTy Tryd.prog 61 71 8 8 := slTy (by kernel_rfl) (by kernel_rfl) (by decide)
instance : ScT Tryd.prog 61 := scT (by kernel_rfl) (by kernel_rfl)
instance : ZrT Tryd.prog 61 (List.replicate 1 (.slice none 0 0)) := zrT (by kernel_rfl)
instance : ZrT Tryd.prog 61 [(.slice none 0 0)] := zrT (by kernel_rfl)
instance : ScT Tryd.prog 62 := scT (by kernel_rfl) (by kernel_rfl)
instance : ZrT Tryd.prog 62 (List.replicate 1 .nilFunc) := zrT (by kernel_rfl)
instance : ZrT Tryd.prog 62 [.nilFunc] := zrT (by kernel_rfl)
instance : SlTy Tryd.prog 63 151 1 8 := slTy (by kernel_rfl) (by kernel_rfl) (by decide)
instance : ScT Tryd.prog 63 := scT (by kernel_rfl) (by kernel_rfl)
instance : ZrT Tryd.prog 63 (List.replicate 1 (.slice none 0 0)) := zrT (by kernel_rfl)
instance : ZrT Tryd.prog 63 [(.slice none 0 0)] := zrT (by kernel_rfl)
instance : AgT Tryd.prog 64 2 := agT (by kernel_rfl) (by kernel_rfl)
instance : BdT Tryd.prog 64 [0, 1] [(.int .i64 0), (.slice none 0 0)] := bdStruct (by kernel_rfl) (by kernel_rfl) (by decide)
instance : FdT Tryd.prog 64 0 0 := fdT (u := 3) (by kernel_rfl) (by kernel_rfl)
instance : FdT Tryd.prog 64 1 1 := fdT (u := 63) (by kernel_rfl) (by kernel_rfl)
instance : ZrT Tryd.prog 64 [(.int .i64 0), (.slice none 0 0)] := zrT (by kernel_rfl)
instance : AgT Tryd.prog 65 2 := agT (by kernel_rfl) (by kernel_rfl)
instance : BdT Tryd.prog 65 [0, 1] [(.int .i64 0), (.slice none 0 0)] := bdStruct (by kernel_rfl) (by kernel_rfl) (by decide)
instance : FdT Tryd.prog 65 0 0 := fdT (u := 3) (by kernel_rfl) (by kernel_rfl)
instance : FdT Tryd.prog 65 1 1 := fdT (u := 63) (by kernel_rfl) (by kernel_rfl)
instance : ZrT Tryd.prog 65 [(.int .i64 0), (.slice none 0 0)] := zrT (by kernel_rfl)
instance : ScT Tryd.prog 67 := scT (by kernel_rfl) (by kernel_rfl)
instance : ZrT Tryd.prog 67 (List.replicate 1 .nilFunc) := zrT (by kernel_rfl)
instance : ZrT Tryd.prog 67 [.nilFunc] := zrT (by kernel_rfl)
instance : SlTy Tryd.prog 68 103 2 16 := slTy (by kernel_rfl) (by kernel_rfl) (by decide)
instance : ScT Tryd.prog 68 := scT (by kernel_rfl) (by kernel_rfl)
instance : ZrT Tryd.prog 68 (List.replicate 1 (.slice none 0 0)) := zrT (by kernel_rfl)
instance : ZrT Tryd.prog 68 [(.slice none 0 0)] := zrT (by kernel_rfl)
instance : ScT Tryd.prog 69 := scT (by kernel_rfl) (by kernel_rfl)
instance : ZrT Tryd.prog 69 (List.replicate 1 .nilFunc) := zrT (by kernel_rfl)
instance : ZrT Tryd.prog 69 [.nilFunc] := zrT (by kernel_rfl)
instance : AgT Tryd.prog 70 8 := agT (by kernel_rfl) (by kernel_rfl)
instance : BdT Tryd.prog 70 (List.range 8) [(.int .u8 0), (.int .u8 0), (.int .u8 0), (.int .u8 0), (.int .u8 0), (.int .u8 0), (.int .u8 0), (.int .u8 0)] := bdArray (n := 8) (e := 5) (by kernel_rfl) (by kernel_rfl) rfl (by kernel_rfl) rfl
instance : ZrT Tryd.prog 70 (List.replicate 8 (.int .u8 0)) := zrT (by kernel_rfl)
instance : ZrT Tryd.prog 70 [(.int .u8 0), (.int .u8 0), (.int .u8 0), (.int .u8 0), (.int .u8 0), (.int .u8 0), (.int .u8 0), (.int .u8 0)] := zrT (by kernel_rfl)
instance : AgT Tryd.prog 71 8 := agT (by kernel_rfl) (by kernel_rfl)
instance : BdT Tryd.prog 71 (List.range 8) [(.int .u8 0), (.int .u8 0), (.int .u8 0), (.int .u8 0), (.int .u8 0), (.int .u8 0), (.int .u8 0), (.int .u8 0)] := bdArray (n := 8) (e := 5) (by kernel_rfl) (by kernel_rfl) rfl (by kernel_rfl) rfl
instance : ZrT Tryd.prog 71 (List.replicate 8 (.int .u8 0)) := zrT (by kernel_rfl)
instance : ZrT Tryd.prog 71 [(.int .u8 0), (.int .u8 0), (.int .u8 0), (.int .u8 0), (.int .u8 0), (.int .u8 0), (.int .u8 0), (.int .u8 0)] := zrT (by kernel_rfl)
instance : ScT Tryd.prog 72 := scT (by kernel_rfl) (by kernel_rfl)
instance : ZrT Tryd.prog 72 (List.replicate 1 .nilFunc) := zrT (by kernel_rfl)
instance : ZrT Tryd.prog 72 [.nilFunc] := zrT (by kernel_rfl)
instance : SlTy Tryd.prog 73 137 2 16 := slTy (by kernel_rfl) (by kernel_rfl) (by decide)
instance : ScT Tryd.prog 73 := scT (by kernel_rfl) (by kernel_rfl)
instance : ZrT Tryd.prog 73 (List.replicate 1 (.slice none 0 0)) := zrT (by kernel_rfl)
instance : ZrT Tryd.prog 73 [(.slice none 0 0)] := zrT (by kernel_rfl)
instance : AgT Tryd.prog 74 3 := agT (by kernel_rfl) (by kernel_rfl)
instance : BdT Tryd.prog 74 [0, 1, 2] [(.slice none 0 0), (.slice none 0 0), (.slice none 0 0)] := bdStruct (by kernel_rfl) (by kernel_rfl) (by decide)
instance : FdT Tryd.prog 74 0 0 := fdT (u := 40) (by kernel_rfl) (by kernel_rfl)
instance : FdT Tryd.prog 74 1 1 := fdT (u := 43) (by kernel_rfl) (by kernel_rfl)
instance : FdT Tryd.prog 74 2 2 := fdT (u := 73) (by kernel_rfl) (by kernel_rfl)
instance : ZrT Tryd.prog 74 (List.replicate 3 (.slice none 0 0)) := zrT (by kernel_rfl)
instance : ZrT Tryd.prog 74 [(.slice none 0 0), (.slice none 0 0), (.slice none 0 0)] := zrT (by kernel_rfl)
instance : AgT Tryd.prog 75 3 := agT (by kernel_rfl) (by kernel_rfl)
instance : BdT Tryd.prog 75 [0, 1, 2] [(.slice none 0 0), (.slice none 0 0), (.slice none 0 0)] := bdStruct (by kernel_rfl) (by kernel_rfl) (by decide)
instance : FdT Tryd.prog 75 0 0 := fdT (u := 40) (by kernel_rfl) (by kernel_rfl)
instance : FdT Tryd.prog 75 1 1 := fdT (u := 43) (by kernel_rfl) (by kernel_rfl)
instance : FdT Tryd.prog 75 2 2 := fdT (u := 73) (by kernel_rfl) (by kernel_rfl)
instance : ZrT Tryd.prog 75 (List.replicate 3 (.slice none 0 0)) := zrT (by kernel_rfl)
instance : ZrT Tryd.prog 75 [(.slice none 0 0), (.slice none 0 0), (.slice none 0 0)] := zrT (by kernel_rfl)
instance : ScT Tryd.prog 76 := scT (by kernel_rfl) (by kernel_rfl)
instance : ZrT Tryd.prog 76 (List.replicate 1 .nilFunc) := zrT (by kernel_rfl)
instance : ZrT Tryd.prog 76 [.nilFunc] := zrT (by kernel_rfl)
instance : ScT Tryd.prog 77 := scT (by kernel_rfl) (by kernel_rfl)
instance : ZrT Tryd.prog 77 (List.replicate 1 .nilFunc) := zrT (by kernel_rfl)
instance : ZrT Tryd.prog 77 [.nilFunc] := zrT (by kernel_rfl)
instance : ScT Tryd.prog 78 := scT (by kernel_rfl) (by kernel_rfl)
instance : ZrT Tryd.prog 78 (List.replicate 1 .nilFunc) := zrT (by kernel_rfl)
instance : ZrT Tryd.prog 78 [.nilFunc] := zrT (by kernel_rfl)
instance : ScT Tryd.prog 79 := scT (by kernel_rfl) (by kernel_rfl)
instance : ZrT Tryd.prog 79 (List.replicate 1 .nilFunc) := zrT (by kernel_rfl)
instance : ZrT Tryd.prog 79 [.nilFunc] := zrT (by kernel_rfl)
instance : SlTy Tryd.prog 80 4 1 1 := slTy (by kernel_rfl) (by kernel_rfl) (by decide)
instance : ScT Tryd.prog 80 := scT (by kernel_rfl) (by kernel_rfl)
instance : ZrT Tryd.prog 80 (List.replicate 1 (.slice none 0 0)) := zrT (by kernel_rfl)
instance : ZrT Tryd.prog 80 [(.slice none 0 0)] := zrT (by kernel_rfl)
instance : ScT Tryd.prog 81 := scT (by kernel_rfl) (by kernel_rfl)
instance : ZrT Tryd.prog 81 (List.replicate 1 .nilFunc) := zrT (by kernel_rfl)
instance : ZrT Tryd.prog 81 [.nilFunc] := zrT (by kernel_rfl)
instance : ScT Tryd.prog 82 := scT (by kernel_rfl) (by kernel_rfl)
instance : ZrT Tryd.prog 82 (List.replicate 1 .nilFunc) := zrT (by kernel_rfl)
instance : ZrT Tryd.prog 82 [.nilFunc] := zrT (by kernel_rfl)
instance : SlTy Tryd.prog 83 142 3 40 := slTy (by kernel_rfl) (by kernel_rfl) (by decide)
instance : ScT Tryd.prog 83 := scT (by kernel_rfl) (by kernel_rfl)
instance : ZrT Tryd.prog 83 (List.replicate 1 (.slice none 0 0)) := zrT (by kernel_rfl)
instance : ZrT Tryd.prog 83 [(.slice none 0 0)] := zrT (by kernel_rfl)
instance : AgT Tryd.prog 84 2 := agT (by kernel_rfl) (by kernel_rfl)
instance : BdT Tryd.prog 84 [0, 1] [(.slice none 0 0), (.slice none 0 0)] := bdStruct (by kernel_rfl) (by kernel_rfl) (by decide)
instance : FdT Tryd.prog 84 0 0 := fdT (u := 40) (by kernel_rfl) (by kernel_rfl)
instance : FdT Tryd.prog 84 1 1 := fdT (u := 83) (by kernel_rfl) (by kernel_rfl)
instance : ZrT Tryd.prog 84 (List.replicate 2 (.slice none 0 0)) := zrT (by kernel_rfl)
instance : ZrT Tryd.prog 84 [(.slice none 0 0), (.slice none 0 0)] := zrT (by kernel_rfl)
instance : AgT Tryd.prog 85 2 := agT (by kernel_rfl) (by kernel_rfl)
instance : BdT Tryd.prog 85 [0, 1] [(.slice none 0 0), (.slice none 0 0)] := bdStruct (by kernel_rfl) (by kernel_rfl) (by decide)
instance : FdT Tryd.prog 85 0 0 := fdT (u := 40) (by kernel_rfl) (by kernel_rfl)
instance : FdT Tryd.prog 85 1 1 := fdT (u := 83) (by kernel_rfl) (by kernel_rfl)
instance : ZrT Tryd.prog 85 (List.replicate 2 (.slice none 0 0)) := zrT (by kernel_rfl)
instance : ZrT Tryd.prog 85 [(.slice none 0 0), (.slice none 0 0)] := zrT (by kernel_rfl)
instance : AgT Tryd.prog 86 2 := agT (by kernel_rfl) (by kernel_rfl)
instance : EqT Tryd.prog 86 [.i64, .i64] := eqStruct (by kernel_rfl) (by kernel_rfl) (by kernel_rfl)
instance : BdT Tryd.prog 86 [0, 1] [(.int .i64 0), (.int .i64 0)] := bdStruct (by kernel_rfl) (by kernel_rfl) (by decide)
instance : FdT Tryd.prog 86 0 0 := fdT (u := 3) (by kernel_rfl) (by kernel_rfl)
instance : FdT Tryd.prog 86 1 1 := fdT (u := 3) (by kernel_rfl) (by kernel_rfl)
instance : ZrT Tryd.prog 86 (List.replicate 2 (.int .i64 0)) := zrT (by kernel_rfl)
instance : ZrT Tryd.prog 86 [(.int .i64 0), (.int .i64 0)] := zrT (by kernel_rfl)
instance : AgT Tryd.prog 87 2 := agT (by kernel_rfl) (by kernel_rfl)
instance : EqT Tryd.prog 87 [.i64, .i64] := eqStruct (by kernel_rfl) (by kernel_rfl) (by kernel_rfl)
instance : BdT Tryd.prog 87 [0, 1] [(.int .i64 0), (.int .i64 0)] := bdStruct (by kernel_rfl) (by kernel_rfl) (by decide)
instance : FdT Tryd.prog 87 0 0 := fdT (u := 3) (by kernel_rfl) (by kernel_rfl)
instance : FdT Tryd.prog 87 1 1 := fdT (u := 3) (by kernel_rfl) (by kernel_rfl)
instance : ZrT Tryd.prog 87 (List.replicate 2 (.int .i64 0)) := zrT (by kernel_rfl)
instance : ZrT Tryd.prog 87 [(.int .i64 0), (.int .i64 0)] := zrT (by kernel_rfl)
instance : ScT Tryd.prog 88 := scT (by kernel_rfl) (by kernel_rfl)
instance : ZrT Tryd.prog 88 (List.replicate 1 .nilFunc) := zrT (by kernel_rfl)
instance : ZrT Tryd.prog 88 [.nilFunc] := zrT (by kernel_rfl)
instance : ScT Tryd.prog 90 := scT (by kernel_rfl) (by kernel_rfl)
instance : ZrT Tryd.prog 90 (List.replicate 1 .nilFunc) := zrT (by kernel_rfl)
instance : ZrT Tryd.prog 90 [.nilFunc] := zrT (by kernel_rfl)
instance : ScT Tryd.prog 92 := scT (by kernel_rfl) (by kernel_rfl)
instance : ZrT Tryd.prog 92 (List.replicate 1 .nilFunc) := zrT (by kernel_rfl)
instance : ZrT Tryd.prog 92 [.nilFunc] := zrT (by kernel_rfl)
instance : ScT Tryd.prog 93 := scT (by kernel_rfl) (by kernel_rfl)
instance : ZrT Tryd.prog 93 (List.replicate 1 .nilFunc) := zrT (by kernel_rfl)
instance : ZrT Tryd.prog 93 [.nilFunc] := zrT (by kernel_rfl)
instance : ScT Tryd.prog 94 := scT (by kernel_rfl) (by kernel_rfl)
instance : ZrT Tryd.prog 94 (List.replicate 1 .nilFunc) := zrT (by kernel_rfl)
instance : ZrT Tryd.prog 94 [.nilFunc] := zrT (by kernel_rfl)
instance : ScT Tryd.prog 95 := scT (by kernel_rfl) (by kernel_rfl)
instance : ZrT Tryd.prog 95 (List.replicate 1 .nilFunc) := zrT (by kernel_rfl)
instance : ZrT Tryd.prog 95 [.nilFunc] := zrT (by kernel_rfl)
instance : ScT Tryd.prog 96 := scT (by kernel_rfl) (by kernel_rfl)
instance : ZrT Tryd.prog 96 (List.replicate 1 .nilFunc) := zrT (by kernel_rfl)
instance : ZrT Tryd.prog 96 [.nilFunc] := zrT (by kernel_rfl)
instance : AgT Tryd.prog 97 3 := agT (by kernel_rfl) (by kernel_rfl)
instance : EqT Tryd.prog 97 [.i64, .i64, .i64] := eqStruct (by kernel_rfl) (by kernel_rfl) (by kernel_rfl)
instance : BdT Tryd.prog 97 [0, 1, 2] [(.int .i64 0), (.int .i64 0), (.int .i64 0)] := bdStruct (by kernel_rfl) (by kernel_rfl) (by decide)
instance : FdT Tryd.prog 97 0 0 := fdT (u := 3) (by kernel_rfl) (by kernel_rfl)
instance : FdT Tryd.prog 97 1 1 := fdT (u := 3) (by kernel_rfl) (by kernel_rfl)
instance : FdT Tryd.prog 97 2 2 := fdT (u := 3) (by kernel_rfl) (by kernel_rfl)
instance : ZrT Tryd.prog 97 (List.replicate 3 (.int .i64 0)) := zrT (by kernel_rfl)
instance : ZrT Tryd.prog 97 [(.int .i64 0), (.int .i64 0), (.int .i64 0)] := zrT (by kernel_rfl)
instance : AgT Tryd.prog 98 3 := agT (by kernel_rfl) (by kernel_rfl)
instance : EqT Tryd.prog 98 [.i64, .i64, .i64] := eqStruct (by kernel_rfl) (by kernel_rfl) (by kernel_rfl)
instance : BdT Tryd.prog 98 [0, 1, 2] [(.int .i64 0), (.int .i64 0), (.int .i64 0)] := bdStruct (by kernel_rfl) (by kernel_rfl) (by decide)
instance : FdT Tryd.prog 98 0 0 := fdT (u := 3) (by kernel_rfl) (by kernel_rfl)
instance : FdT Tryd.prog 98 1 1 := fdT (u := 3) (by kernel_rfl) (by kernel_rfl)
instance : FdT Tryd.prog 98 2 2 := fdT (u := 3) (by kernel_rfl) (by kernel_rfl)
instance : ZrT Tryd.prog 98 (List.replicate 3 (.int .i64 0)) := zrT (by kernel_rfl)
instance : ZrT Tryd.prog 98 [(.int .i64 0), (.int .i64 0), (.int .i64 0)] := zrT (by kernel_rfl)
instance : AgT Tryd.prog 99 3 := agT (by kernel_rfl) (by kernel_rfl)
instance : BdT Tryd.prog 99 [0, 1, 2] [(.int .i64 0), (.int .i64 0), (.slice none 0 0)] := bdStruct (by kernel_rfl) (by kernel_rfl) (by decide)
instance : FdT Tryd.prog 99 0 0 := fdT (u := 3) (by kernel_rfl) (by kernel_rfl)
instance : FdT Tryd.prog 99 1 1 := fdT (u := 3) (by kernel_rfl) (by kernel_rfl)
instance : FdT Tryd.prog 99 2 2 := fdT (u := 61) (by kernel_rfl) (by kernel_rfl)
instance : ZrT Tryd.prog 99 [(.int .i64 0), (.int .i64 0), (.slice none 0 0)] := zrT (by kernel_rfl)
instance : AgT Tryd.prog 100 3 := agT (by kernel_rfl) (by kernel_rfl)
instance : BdT Tryd.prog 100 [0, 1, 2] [(.int .i64 0), (.int .i64 0), (.slice none 0 0)] := bdStruct (by kernel_rfl) (by kernel_rfl) (by decide)
instance : FdT Tryd.prog 100 0 0 := fdT (u := 3) (by kernel_rfl) (by kernel_rfl)
instance : FdT Tryd.prog 100 1 1 := fdT (u := 3) (by kernel_rfl) (by kernel_rfl)
instance : FdT Tryd.prog 100 2 2 := fdT (u := 61) (by kernel_rfl) (by kernel_rfl)
instance : ZrT Tryd.prog 100 [(.int .i64 0), (.int .i64 0), (.slice none 0 0)] := zrT (by kernel_rfl)
instance : ScT Tryd.prog 101 := scT (by kernel_rfl) (by kernel_rfl)
instance : ZrT Tryd.prog 101 (List.replicate 1 .nilFunc) := zrT (by kernel_rfl)
instance : ZrT Tryd.prog 101 [.nilFunc] := zrT (by kernel_rfl)
instance : AgT Tryd.prog 102 2 := agT (by kernel_rfl) (by kernel_rfl)
instance : EqT Tryd.prog 102 [.i64, .i64] := eqStruct (by kernel_rfl) (by kernel_rfl) (by kernel_rfl)
instance : BdT Tryd.prog 102 [0, 1] [(.int .i64 0), (.int .i64 0)] := bdStruct (by kernel_rfl) (by kernel_rfl) (by decide)
instance : FdT Tryd.prog 102 0 0 := fdT (u := 3) (by kernel_rfl) (by kernel_rfl)
instance : FdT Tryd.prog 102 1 1 := fdT (u := 3) (by kernel_rfl) (by kernel_rfl)
instance : ZrT Tryd.prog 102 (List.replicate 2 (.int .i64 0)) := zrT (by kernel_rfl)
instance : ZrT Tryd.prog 102 [(.int .i64 0), (.int .i64 0)] := zrT (by kernel_rfl)
instance : AgT Tryd.prog 103 2 := agT (by kernel_rfl) (by kernel_rfl)
instance : EqT Tryd.prog 103 [.i64, .i64] := eqStruct (by kernel_rfl) (by kernel_rfl) (by kernel_rfl)
instance : BdT Tryd.prog 103 [0, 1] [(.int .i64 0), (.int .i64 0)] := bdStruct (by kernel_rfl) (by kernel_rfl) (by decide)
instance : FdT Tryd.prog 103 0 0 := fdT (u := 3) (by kernel_rfl) (by kernel_rfl)
instance : FdT Tryd.prog 103 1 1 := fdT (u := 3) (by kernel_rfl) (by kernel_rfl)
instance : ZrT Tryd.prog 103 (List.replicate 2 (.int .i64 0)) := zrT (by kernel_rfl)
instance : ZrT Tryd.prog 103 [(.int .i64 0), (.int .i64 0)] := zrT (by kernel_rfl)
instance : ScT Tryd.prog 104 := scT (by kernel_rfl) (by kernel_rfl)
instance : ZrT Tryd.prog 104 (List.replicate 1 .nilFunc) := zrT (by kernel_rfl)
instance : ZrT Tryd.prog 104 [.nilFunc] := zrT (by kernel_rfl)
instance : ScT Tryd.prog 105 := scT (by kernel_rfl) (by kernel_rfl)
instance : ZrT Tryd.prog 105 (List.replicate 1 .nilFunc) := zrT (by kernel_rfl)
instance : ZrT Tryd.prog 105 [.nilFunc] := zrT (by kernel_rfl)
instance : ScT Tryd.prog 106 := scT (by kernel_rfl) (by kernel_rfl)
instance : ZrT Tryd.prog 106 (List.replicate 1 .nilFunc) := zrT (by kernel_rfl)
instance : ZrT Tryd.prog 106 [.nilFunc] := zrT (by kernel_rfl)
instance : ScT Tryd.prog 107 := scT (by kernel_rfl) (by kernel_rfl)
instance : ZrT Tryd.prog 107 (List.replicate 1 .nilFunc) := zrT (by kernel_rfl)
instance : ZrT Tryd.prog 107 [.nilFunc] := zrT (by kernel_rfl)
instance : ScT Tryd.prog 108 := scT (by kernel_rfl) (by kernel_rfl)
instance : ZrT Tryd.prog 108 (List.replicate 1 .nilFunc) := zrT (by kernel_rfl)
instance : ZrT Tryd.prog 108 [.nilFunc] := zrT (by kernel_rfl)
instance : ScT Tryd.prog 109 := scT (by kernel_rfl) (by kernel_rfl)
instance : ZrT Tryd.prog 109 (List.replicate 1 .nilFunc) := zrT (by kernel_rfl)
instance : ZrT Tryd.prog 109 [.nilFunc] := zrT (by kernel_rfl)
instance : ScT Tryd.prog 110 := scT (by kernel_rfl) (by kernel_rfl)
instance : ZrT Tryd.prog 110 (List.replicate 1 .nilFunc) := zrT (by kernel_rfl)
instance : ZrT Tryd.prog 110 [.nilFunc] := zrT (by kernel_rfl)
instance : ScT Tryd.prog 112 := scT (by kernel_rfl) (by kernel_rfl)
instance : ZrT Tryd.prog 112 (List.replicate 1 .nilFunc) := zrT (by kernel_rfl)
instance : ZrT Tryd.prog 112 [.nilFunc] := zrT (by kernel_rfl)
instance : ScT Tryd.prog 113 := scT (by kernel_rfl) (by kernel_rfl)
instance : ZrT Tryd.prog 113 (List.replicate 1 .nilFunc) := zrT (by kernel_rfl)
instance : ZrT Tryd.prog 113 [.nilFunc] := zrT (by kernel_rfl)
instance : ScT Tryd.prog 114 := scT (by kernel_rfl) (by kernel_rfl)
instance : ZrT Tryd.prog 114 (List.replicate 1 .nilFunc) := zrT (by kernel_rfl)
instance : ZrT Tryd.prog 114 [.nilFunc] := zrT (by kernel_rfl)
instance : ScT Tryd.prog 115 := scT (by kernel_rfl) (by kernel_rfl)
instance : ZrT Tryd.prog 115 (List.replicate 1 .nilFunc) := zrT (by kernel_rfl)
instance : ZrT Tryd.prog 115 [.nilFunc] := zrT (by kernel_rfl)
instance : ScT Tryd.prog 116 := scT (by kernel_rfl) (by kernel_rfl)
instance : ZrT Tryd.prog 116 (List.replicate 1 .nilFunc) := zrT (by kernel_rfl)
instance : ZrT Tryd.prog 116 [.nilFunc] := zrT (by kernel_rfl)
instance : ScT Tryd.prog 117 := scT (by kernel_rfl) (by kernel_rfl)
instance : ZrT Tryd.prog 117 (List.replicate 1 .nilFunc) := zrT (by kernel_rfl)
instance : ZrT Tryd.prog 117 [.nilFunc] := zrT (by kernel_rfl)
instance : ScT Tryd.prog 118 := scT (by kernel_rfl) (by kernel_rfl)
instance : ZrT Tryd.prog 118 (List.replicate 1 .nilFunc) := zrT (by kernel_rfl)
instance : ZrT Tryd.prog 118 [.nilFunc] := zrT (by kernel_rfl)
instance : ScT Tryd.prog 119 := scT (by kernel_rfl) (by kernel_rfl)
instance : ZrT Tryd.prog 119 (List.replicate 1 .nilFunc) := zrT (by kernel_rfl)
instance : ZrT Tryd.prog 119 [.nilFunc] := zrT (by kernel_rfl)
instance : ScT Tryd.prog 120 := scT (by kernel_rfl) (by kernel_rfl)
instance : ZrT Tryd.prog 120 (List.replicate 1 .nilFunc) := zrT (by kernel_rfl)
instance : ZrT Tryd.prog 120 [.nilFunc] := zrT (by kernel_rfl)
instance : ScT Tryd.prog 122 := scT (by kernel_rfl) (by kernel_rfl)
instance : ZrT Tryd.prog 122 (List.replicate 1 .nilFunc) := zrT (by kernel_rfl)
instance : ZrT Tryd.prog 122 [.nilFunc] := zrT (by kernel_rfl)
instance : ScT Tryd.prog 123 := scT (by kernel_rfl) (by kernel_rfl)
instance : ZrT Tryd.prog 123 (List.replicate 1 .nilFunc) := zrT (by kernel_rfl)
instance : ZrT Tryd.prog 123 [.nilFunc] := zrT (by kernel_rfl)
instance : ScT Tryd.prog 125 := scT (by kernel_rfl) (by kernel_rfl)
instance : ZrT Tryd.prog 125 (List.replicate 1 .nilFunc) := zrT (by kernel_rfl)
instance : ZrT Tryd.prog 125 [.nilFunc] := zrT (by kernel_rfl)
instance : ScT Tryd.prog 126 := scT (by kernel_rfl) (by kernel_rfl)
instance : ZrT Tryd.prog 126 (List.replicate 1 .nilFunc) := zrT (by kernel_rfl)
instance : ZrT Tryd.prog 126 [.nilFunc] := zrT (by kernel_rfl)
instance : ScT Tryd.prog 127 := scT (by kernel_rfl) (by kernel_rfl)
instance : ZrT Tryd.prog 127 (List.replicate 1 .nilFunc) := zrT (by kernel_rfl)
instance : ZrT Tryd.prog 127 [.nilFunc] := zrT (by kernel_rfl)
instance : ScT Tryd.prog 128 := scT (by kernel_rfl) (by kernel_rfl)
instance : ZrT Tryd.prog 128 (List.replicate 1 .nilFunc) := zrT (by kernel_rfl)
instance : ZrT Tryd.prog 128 [.nilFunc] := zrT (by kernel_rfl)
instance : ScT Tryd.prog 129 := scT (by kernel_rfl) (by kernel_rfl)
instance : ZrT Tryd.prog 129 (List.replicate 1 .nilFunc) := zrT (by kernel_rfl)
instance : ZrT Tryd.prog 129 [.nilFunc] := zrT (by kernel_rfl)
instance : ScT Tryd.prog 130 := scT (by kernel_rfl) (by kernel_rfl)
instance : ZrT Tryd.prog 130 (List.replicate 1 .nilFunc) := zrT (by kernel_rfl)
instance : ZrT Tryd.prog 130 [.nilFunc] := zrT (by kernel_rfl)
instance : ScT Tryd.prog 132 := scT (by kernel_rfl) (by kernel_rfl)
instance : ZrT Tryd.prog 132 (List.replicate 1 .nilFunc) := zrT (by kernel_rfl)
instance : ZrT Tryd.prog 132 [.nilFunc] := zrT (by kernel_rfl)
instance : ScT Tryd.prog 133 := scT (by kernel_rfl) (by kernel_rfl)
instance : ZrT Tryd.prog 133 (List.replicate 1 .nilFunc) := zrT (by kernel_rfl)
instance : ZrT Tryd.prog 133 [.nilFunc] := zrT (by kernel_rfl)
instance : ScT Tryd.prog 134 := scT (by kernel_rfl) (by kernel_rfl)
instance : ZrT Tryd.prog 134 (List.replicate 1 .nilFunc) := zrT (by kernel_rfl)
instance : ZrT Tryd.prog 134 [.nilFunc] := zrT (by kernel_rfl)
instance : ScT Tryd.prog 135 := scT (by kernel_rfl) (by kernel_rfl)
instance : ZrT Tryd.prog 135 (List.replicate 1 .nilFunc) := zrT (by kernel_rfl)
instance : ZrT Tryd.prog 135 [.nilFunc] := zrT (by kernel_rfl)
instance : AgT Tryd.prog 136 2 := agT (by kernel_rfl) (by kernel_rfl)
instance : EqT Tryd.prog 136 [.i64, .i64] := eqStruct (by kernel_rfl) (by kernel_rfl) (by kernel_rfl)
instance : BdT Tryd.prog 136 [0, 1] [(.int .i64 0), (.int .i64 0)] := bdStruct (by kernel_rfl) (by kernel_rfl) (by decide)
instance : FdT Tryd.prog 136 0 0 := fdT (u := 3) (by kernel_rfl) (by kernel_rfl)
instance : FdT Tryd.prog 136 1 1 := fdT (u := 3) (by kernel_rfl) (by kernel_rfl)
instance : ZrT Tryd.prog 136 (List.replicate 2 (.int .i64 0)) := zrT (by kernel_rfl)
instance : ZrT Tryd.prog 136 [(.int .i64 0), (.int .i64 0)] := zrT (by kernel_rfl)
instance : AgT Tryd.prog 137 2 := agT (by kernel_rfl) (by kernel_rfl)
instance : EqT Tryd.prog 137 [.i64, .i64] := eqStruct (by kernel_rfl) (by kernel_rfl) (by kernel_rfl)
instance : BdT Tryd.prog 137 [0, 1] [(.int .i64 0), (.int .i64 0)] := bdStruct (by kernel_rfl) (by kernel_rfl) (by decide)
instance : FdT Tryd.prog 137 0 0 := fdT (u := 3) (by kernel_rfl) (by kernel_rfl)
instance : FdT Tryd.prog 137 1 1 := fdT (u := 3) (by kernel_rfl) (by kernel_rfl)
instance : ZrT Tryd.prog 137 (List.replicate 2 (.int .i64 0)) := zrT (by kernel_rfl)
instance : ZrT Tryd.prog 137 [(.int .i64 0), (.int .i64 0)] := zrT (by kernel_rfl)
instance : ScT Tryd.prog 138 := scT (by kernel_rfl) (by kernel_rfl)
instance : ZrT Tryd.prog 138 (List.replicate 1 .nilFunc) := zrT (by kernel_rfl)
instance : ZrT Tryd.prog 138 [.nilFunc] := zrT (by kernel_rfl)
instance : ScT Tryd.prog 139 := scT (by kernel_rfl) (by kernel_rfl)
instance : ZrT Tryd.prog 139 (List.replicate 1 .nilFunc) := zrT (by kernel_rfl)
instance : ZrT Tryd.prog 139 [.nilFunc] := zrT (by kernel_rfl)
instance : ScT Tryd.prog 140 := scT (by kernel_rfl) (by kernel_rfl)
instance : ZrT Tryd.prog 140 (List.replicate 1 .nilFunc) := zrT (by kernel_rfl)
instance : ZrT Tryd.prog 140 [.nilFunc] := zrT (by kernel_rfl)
instance : AgT Tryd.prog 141 3 := agT (by kernel_rfl) (by kernel_rfl)
instance : BdT Tryd.prog 141 [0, 1, 2] [(.int .i64 0), (.int .i64 0), (.slice none 0 0)] := bdStruct (by kernel_rfl) (by kernel_rfl) (by decide)
instance : FdT Tryd.prog 141 0 0 := fdT (u := 3) (by kernel_rfl) (by kernel_rfl)
instance : FdT Tryd.prog 141 1 1 := fdT (u := 3) (by kernel_rfl) (by kernel_rfl)
instance : FdT Tryd.prog 141 2 2 := fdT (u := 23) (by kernel_rfl) (by kernel_rfl)
instance : ZrT Tryd.prog 141 [(.int .i64 0), (.int .i64 0), (.slice none 0 0)] := zrT (by kernel_rfl)
instance : AgT Tryd.prog 142 3 := agT (by kernel_rfl) (by kernel_rfl)
instance : BdT Tryd.prog 142 [0, 1, 2] [(.int .i64 0), (.int .i64 0), (.slice none 0 0)] := bdStruct (by kernel_rfl) (by kernel_rfl) (by decide)
instance : FdT Tryd.prog 142 0 0 := fdT (u := 3) (by kernel_rfl) (by kernel_rfl)
instance : FdT Tryd.prog 142 1 1 := fdT (u := 3) (by kernel_rfl) (by kernel_rfl)
instance : FdT Tryd.prog 142 2 2 := fdT (u := 23) (by kernel_rfl) (by kernel_rfl)
instance : ZrT Tryd.prog 142 [(.int .i64 0), (.int .i64 0), (.slice none 0 0)] := zrT (by kernel_rfl)
instance : ScT Tryd.prog 143 := scT (by kernel_rfl) (by kernel_rfl)
instance : ZrT Tryd.prog 143 (List.replicate 1 .nilFunc) := zrT (by kernel_rfl)
instance : ZrT Tryd.prog 143 [.nilFunc] := zrT (by kernel_rfl)
instance : ScT Tryd.prog 144 := scT (by kernel_rfl) (by kernel_rfl)
instance : ZrT Tryd.prog 144 (List.replicate 1 .nilFunc) := zrT (by kernel_rfl)
instance : ZrT Tryd.prog 144 [.nilFunc] := zrT (by kernel_rfl)
instance : ScT Tryd.prog 145 := scT (by kernel_rfl) (by kernel_rfl)
instance : ZrT Tryd.prog 145 (List.replicate 1 .nilFunc) := zrT (by kernel_rfl)
instance : ZrT Tryd.prog 145 [.nilFunc] := zrT (by kernel_rfl)
instance : ScT Tryd.prog 147 := scT (by kernel_rfl) (by kernel_rfl)
instance : ZrT Tryd.prog 147 (List.replicate 1 .nilFunc) := zrT (by kernel_rfl)
instance : ZrT Tryd.prog 147 [.nilFunc] := zrT (by kernel_rfl)
instance : ScT Tryd.prog 148 := scT (by kernel_rfl) (by kernel_rfl)
instance : ZrT Tryd.prog 148 (List.replicate 1 .nilFunc) := zrT (by kernel_rfl)
instance : ZrT Tryd.prog 148 [.nilFunc] := zrT (by kernel_rfl)
instance : ScT Tryd.prog 149 := scT (by kernel_rfl) (by kernel_rfl)
instance : ZrT Tryd.prog 149 (List.replicate 1 .nilFunc) := zrT (by kernel_rfl)
instance : ZrT Tryd.prog 149 [.nilFunc] := zrT (by kernel_rfl)
instance : ScT Tryd.prog 150 := scT (by kernel_rfl) (by kernel_rfl)
instance : ZrT Tryd.prog 150 (List.replicate 1 .nilFunc) := zrT (by kernel_rfl)
instance : ZrT Tryd.prog 150 [.nilFunc] := zrT (by kernel_rfl)
instance : ScT Tryd.prog 151 := scT (by kernel_rfl) (by kernel_rfl)
instance : KdT Tryd.prog 151 .u64 := ⟨by kernel_rfl⟩
instance : ZrT Tryd.prog 151 (List.replicate 1 (.int .u64 0)) := zrT (by kernel_rfl)
instance : ZrT Tryd.prog 151 [(.int .u64 0)] := zrT (by kernel_rfl)
instance : ScT Tryd.prog 152 := scT (by kernel_rfl) (by kernel_rfl)
instance : ZrT Tryd.prog 152 (List.replicate 1 .nilFunc) := zrT (by kernel_rfl)
instance : ZrT Tryd.prog 152 [.nilFunc] := zrT (by kernel_rfl)
instance : ScT Tryd.prog 153 := scT (by kernel_rfl) (by kernel_rfl)
instance : ZrT Tryd.prog 153 (List.replicate 1 .nilFunc) := zrT (by kernel_rfl)
instance : ZrT Tryd.prog 153 [.nilFunc] := zrT (by kernel_rfl)
instance : ScT Tryd.prog 154 := scT (by kernel_rfl) (by kernel_rfl)
instance : ZrT Tryd.prog 154 (List.replicate 1 .nilFunc) := zrT (by kernel_rfl)
instance : ZrT Tryd.prog 154 [.nilFunc] := zrT (by kernel_rfl)
instance : ScT Tryd.prog 155 := scT (by kernel_rfl) (by kernel_rfl)
instance : ZrT Tryd.prog 155 (List.replicate 1 .nilFunc) := zrT (by kernel_rfl)
instance : ZrT Tryd.prog 155 [.nilFunc] := zrT (by kernel_rfl)
instance : ScT Tryd.prog 157 := scT (by kernel_rfl) (by kernel_rfl)
instance : ZrT Tryd.prog 157 (List.replicate 1 .nilFunc) := zrT (by kernel_rfl)
instance : ZrT Tryd.prog 157 [.nilFunc] := zrT (by kernel_rfl)
instance : ScT Tryd.prog 158 := scT (by kernel_rfl) (by kernel_rfl)
instance : ZrT Tryd.prog 158 (List.replicate 1 .nilFunc) := zrT (by kernel_rfl)
instance : ZrT Tryd.prog 158 [.nilFunc] := zrT (by kernel_rfl)
instance : ScT Tryd.prog 159 := scT (by kernel_rfl) (by kernel_rfl)
instance : ZrT Tryd.prog 159 (List.replicate 1 .nilFunc) := zrT (by kernel_rfl)
instance : ZrT Tryd.prog 159 [.nilFunc] := zrT (by kernel_rfl)
instance : ScT Tryd.prog 160 := scT (by kernel_rfl) (by kernel_rfl)
instance : ZrT Tryd.prog 160 (List.replicate 1 .nilFunc) := zrT (by kernel_rfl)
instance : ZrT Tryd.prog 160 [.nilFunc] := zrT (by kernel_rfl)
instance : ScT Tryd.prog 161 := scT (by kernel_rfl) (by kernel_rfl)
instance : ZrT Tryd.prog 161 (List.replicate 1 .nilFunc) := zrT (by kernel_rfl)
instance : ZrT Tryd.prog 161 [.nilFunc] := zrT (by kernel_rfl)
instance : ScT Tryd.prog 162 := scT (by kernel_rfl) (by kernel_rfl)
instance : ZrT Tryd.prog 162 (List.replicate 1 .nilFunc) := zrT (by kernel_rfl)
instance : ZrT Tryd.prog 162 [.nilFunc] := zrT (by kernel_rfl)
instance : ScT Tryd.prog 163 := scT (by kernel_rfl) (by kernel_rfl)
instance : ZrT Tryd.prog 163 (List.replicate 1 .nilFunc) := zrT (by kernel_rfl)
instance : ZrT Tryd.prog 163 [.nilFunc] := zrT (by kernel_rfl)
instance : ScT Tryd.prog 164 := scT (by kernel_rfl) (by kernel_rfl)
instance : ZrT Tryd.prog 164 (List.replicate 1 .nilFunc) := zrT (by kernel_rfl)
instance : ZrT Tryd.prog 164 [.nilFunc] := zrT (by kernel_rfl)
instance : ScT Tryd.prog 165 := scT (by kernel_rfl) (by kernel_rfl)
instance : ZrT Tryd.prog 165 (List.replicate 1 .nilFunc) := zrT (by kernel_rfl)
instance : ZrT Tryd.prog 165 [.nilFunc] := zrT (by kernel_rfl)
instance : SlTy Tryd.prog 166 27 4 80 := slTy (by kernel_rfl) (by kernel_rfl) (by decide)
instance : ScT Tryd.prog 166 := scT (by kernel_rfl) (by kernel_rfl)
instance : ZrT Tryd.prog 166 (List.replicate 1 (.slice none 0 0)) := zrT (by kernel_rfl)
instance : ZrT Tryd.prog 166 [(.slice none 0 0)] := zrT (by kernel_rfl)
instance : ScT Tryd.prog 167 := scT (by kernel_rfl) (by kernel_rfl)
instance : ZrT Tryd.prog 167 (List.replicate 1 .nilFunc) := zrT (by kernel_rfl)
instance : ZrT Tryd.prog 167 [.nilFunc] := zrT (by kernel_rfl)
instance : ScT Tryd.prog 168 := scT (by kernel_rfl) (by kernel_rfl)
instance : ZrT Tryd.prog 168 (List.replicate 1 .nilFunc) := zrT (by kernel_rfl)
instance : ZrT Tryd.prog 168 [.nilFunc] := zrT (by kernel_rfl)
instance : ScT Tryd.prog 169 := scT (by kernel_rfl) (by kernel_rfl)
instance : ZrT Tryd.prog 169 (List.replicate 1 .nilFunc) := zrT (by kernel_rfl)
instance : ZrT Tryd.prog 169 [.nilFunc] := zrT (by kernel_rfl)
instance : ScT Tryd.prog 170 := scT (by kernel_rfl) (by kernel_rfl)
instance : ZrT Tryd.prog 170 (List.replicate 1 .nilFunc) := zrT (by kernel_rfl)
instance : ZrT Tryd.prog 170 [.nilFunc] := zrT (by kernel_rfl)
instance : ScT Tryd.prog 171 := scT (by kernel_rfl) (by kernel_rfl)
instance : ZrT Tryd.prog 171 (List.replicate 1 .nilFunc) := zrT (by kernel_rfl)
instance : ZrT Tryd.prog 171 [.nilFunc] := zrT (by kernel_rfl)
instance : ScT Tryd.prog 172 := scT (by kernel_rfl) (by kernel_rfl)
instance : ZrT Tryd.prog 172 (List.replicate 1 .nilFunc) := zrT (by kernel_rfl)
instance : ZrT Tryd.prog 172 [.nilFunc] := zrT (by kernel_rfl)
instance : ScT Tryd.prog 173 := scT (by kernel_rfl) (by kernel_rfl)
instance : ZrT Tryd.prog 173 (List.replicate 1 .nilFunc) := zrT (by kernel_rfl)
instance : ZrT Tryd.prog 173 [.nilFunc] := zrT (by kernel_rfl)
instance : ScT Tryd.prog 174 := scT (by kernel_rfl) (by kernel_rfl)
instance : ZrT Tryd.prog 174 (List.replicate 1 .nilFunc) := zrT (by kernel_rfl)
instance : ZrT Tryd.prog 174 [.nilFunc] := zrT (by kernel_rfl)
instance : ScT Tryd.prog 175 := scT (by kernel_rfl) (by kernel_rfl)
instance : ZrT Tryd.prog 175 (List.replicate 1 .nilFunc) := zrT (by kernel_rfl)
instance : ZrT Tryd.prog 175 [.nilFunc] := zrT (by kernel_rfl)
instance : ScT Tryd.prog 176 := scT (by kernel_rfl) (by kernel_rfl)
instance : ZrT Tryd.prog 176 (List.replicate 1 .nilFunc) := zrT (by kernel_rfl)
instance : ZrT Tryd.prog 176 [.nilFunc] := zrT (by kernel_rfl)
instance : ScT Tryd.prog 177 := scT (by kernel_rfl) (by kernel_rfl)
instance : ZrT Tryd.prog 177 (List.replicate 1 .nilFunc) := zrT (by kernel_rfl)
instance : ZrT Tryd.prog 177 [.nilFunc] := zrT (by kernel_rfl)
instance : ScT Tryd.prog 178 := scT (by kernel_rfl) (by kernel_rfl)
instance : KdT Tryd.prog 178 .u64 := ⟨by kernel_rfl⟩
instance : ZrT Tryd.prog 178 (List.replicate 1 (.int .u64 0)) := zrT (by kernel_rfl)
instance : ZrT Tryd.prog 178 [(.int .u64 0)] := zrT (by kernel_rfl)
instance : AgT Tryd.prog 179 2 := agT (by kernel_rfl) (by kernel_rfl)
instance : BdT Tryd.prog 179 [0, 1] [(.slice none 0 0), (.slice none 0 0)] := bdStruct (by kernel_rfl) (by kernel_rfl) (by decide)
instance : FdT Tryd.prog 179 0 0 := fdT (u := 40) (by kernel_rfl) (by kernel_rfl)
instance : FdT Tryd.prog 179 1 1 := fdT (u := 40) (by kernel_rfl) (by kernel_rfl)
instance : ZrT Tryd.prog 179 (List.replicate 2 (.slice none 0 0)) := zrT (by kernel_rfl)
instance : ZrT Tryd.prog 179 [(.slice none 0 0), (.slice none 0 0)] := zrT (by kernel_rfl)
instance : AgT Tryd.prog 180 2 := agT (by kernel_rfl) (by kernel_rfl)
instance : BdT Tryd.prog 180 [0, 1] [(.slice none 0 0), (.slice none 0 0)] := bdStruct (by kernel_rfl) (by kernel_rfl) (by decide)
instance : FdT Tryd.prog 180 0 0 := fdT (u := 40) (by kernel_rfl) (by kernel_rfl)
instance : FdT Tryd.prog 180 1 1 := fdT (u := 40) (by kernel_rfl) (by kernel_rfl)
instance : ZrT Tryd.prog 180 (List.replicate 2 (.slice none 0 0)) := zrT (by kernel_rfl)
instance : ZrT Tryd.prog 180 [(.slice none 0 0), (.slice none 0 0)] := zrT (by kernel_rfl)
instance : AgT Tryd.prog 181 5 := agT (by kernel_rfl) (by kernel_rfl)
instance : FdT Tryd.prog 181 0 0 := fdT (u := 75) (by kernel_rfl) (by kernel_rfl)
instance : FdT Tryd.prog 181 1 3 := fdT (u := 180) (by kernel_rfl) (by kernel_rfl)
instance : ZrT Tryd.prog 181 (List.replicate 5 (.slice none 0 0)) := zrT (by kernel_rfl)
instance : ZrT Tryd.prog 181 [(.slice none 0 0), (.slice none 0 0), (.slice none 0 0), (.slice none 0 0), (.slice none 0 0)] := zrT (by kernel_rfl)
instance : AgT Tryd.prog 182 5 := agT (by kernel_rfl) (by kernel_rfl)
instance : FdT Tryd.prog 182 0 0 := fdT (u := 75) (by kernel_rfl) (by kernel_rfl)
instance : FdT Tryd.prog 182 1 3 := fdT (u := 180) (by kernel_rfl) (by kernel_rfl)
instance : ZrT Tryd.prog 182 (List.replicate 5 (.slice none 0 0)) := zrT (by kernel_rfl)
instance : ZrT Tryd.prog 182 [(.slice none 0 0), (.slice none 0 0), (.slice none 0 0), (.slice none 0 0), (.slice none 0 0)] := zrT (by kernel_rfl)
instance : ScT Tryd.prog 184 := scT (by kernel_rfl) (by kernel_rfl)
instance : ZrT Tryd.prog 184 (List.replicate 1 .nilFunc) := zrT (by kernel_rfl)
instance : ZrT Tryd.prog 184 [.nilFunc] := zrT (by kernel_rfl)
instance : ScT Tryd.prog 185 := scT (by kernel_rfl) (by kernel_rfl)
instance : ZrT Tryd.prog 185 (List.replicate 1 .nilFunc) := zrT (by kernel_rfl)
instance : ZrT Tryd.prog 185 [.nilFunc] := zrT (by kernel_rfl)
instance : ScT Tryd.prog 186 := scT (by kernel_rfl) (by kernel_rfl)
instance : ZrT Tryd.prog 186 (List.replicate 1 .nilFunc) := zrT (by kernel_rfl)
instance : ZrT Tryd.prog 186 [.nilFunc] := zrT (by kernel_rfl)
instance : ScT Tryd.prog 187 := scT (by kernel_rfl) (by kernel_rfl)
instance : ZrT Tryd.prog 187 (List.replicate 1 .nilFunc) := zrT (by kernel_rfl)
instance : ZrT Tryd.prog 187 [.nilFunc] := zrT (by kernel_rfl)
instance : ScT Tryd.prog 188 := scT (by kernel_rfl) (by kernel_rfl)
instance : ZrT Tryd.prog 188 (List.replicate 1 .nilFunc) := zrT (by kernel_rfl)
instance : ZrT Tryd.prog 188 [.nilFunc] := zrT (by kernel_rfl)
instance : ScT Tryd.prog 189 := scT (by kernel_rfl) (by kernel_rfl)
instance : ZrT Tryd.prog 189 (List.replicate 1 .nilFunc) := zrT (by kernel_rfl)
instance : ZrT Tryd.prog 189 [.nilFunc] := zrT (by kernel_rfl)
instance : ScT Tryd.prog 190 := scT (by kernel_rfl) (by kernel_rfl)
instance : ZrT Tryd.prog 190 (List.replicate 1 .nilFunc) := zrT (by kernel_rfl)
instance : ZrT Tryd.prog 190 [.nilFunc] := zrT (by kernel_rfl)
instance : ScT Tryd.prog 191 := scT (by kernel_rfl) (by kernel_rfl)
instance : ZrT Tryd.prog 191 (List.replicate 1 .nilFunc) := zrT (by kernel_rfl)
instance : ZrT Tryd.prog 191 [.nilFunc] := zrT (by kernel_rfl)
instance : ScT Tryd.prog 192 := scT (by kernel_rfl) (by kernel_rfl)
instance : ZrT Tryd.prog 192 (List.replicate 1 .nilFunc) := zrT (by kernel_rfl)
instance : ZrT Tryd.prog 192 [.nilFunc] := zrT (by kernel_rfl)
instance : ScT Tryd.prog 193 := scT (by kernel_rfl) (by kernel_rfl)
instance : ZrT Tryd.prog 193 (List.replicate 1 .nilFunc) := zrT (by kernel_rfl)
instance : ZrT Tryd.prog 193 [.nilFunc] := zrT (by kernel_rfl)
instance : ScT Tryd.prog 194 := scT (by kernel_rfl) (by kernel_rfl)
instance : ZrT Tryd.prog 194 (List.replicate 1 .nilFunc) := zrT (by kernel_rfl)
instance : ZrT Tryd.prog 194 [.nilFunc] := zrT (by kernel_rfl)
instance : ScT Tryd.prog 195 := scT (by kernel_rfl) (by kernel_rfl)
instance : ZrT Tryd.prog 195 (List.replicate 1 .nilFunc) := zrT (by kernel_rfl)
instance : ZrT Tryd.prog 195 [.nilFunc] := zrT (by kernel_rfl)
instance : ScT Tryd.prog 196 := scT (by kernel_rfl) (by kernel_rfl)
instance : ZrT Tryd.prog 196 (List.replicate 1 .nilFunc) := zrT (by kernel_rfl)
instance : ZrT Tryd.prog 196 [.nilFunc] := zrT (by kernel_rfl)
instance : ScT Tryd.prog 197 := scT (by kernel_rfl) (by kernel_rfl)
instance : ZrT Tryd.prog 197 (List.replicate 1 .nilFunc) := zrT (by kernel_rfl)
instance : ZrT Tryd.prog 197 [.nilFunc] := zrT (by kernel_rfl)
instance : ScT Tryd.prog 198 := scT (by kernel_rfl) (by kernel_rfl)
instance : ZrT Tryd.prog 198 (List.replicate 1 .nilFunc) := zrT (by kernel_rfl)
instance : ZrT Tryd.prog 198 [.nilFunc] := zrT (by kernel_rfl)
instance : ScT Tryd.prog 199 := scT (by kernel_rfl) (by kernel_rfl)
instance : ZrT Tryd.prog 199 (List.replicate 1 .nilFunc) := zrT (by kernel_rfl)
instance : ZrT Tryd.prog 199 [.nilFunc] := zrT (by kernel_rfl)
instance : ScT Tryd.prog 200 := scT (by kernel_rfl) (by kernel_rfl)
instance : ZrT Tryd.prog 200 (List.replicate 1 .nilFunc) := zrT (by kernel_rfl)
instance : ZrT Tryd.prog 200 [.nilFunc] := zrT (by kernel_rfl)
instance : ScT Tryd.prog 201 := scT (by kernel_rfl) (by kernel_rfl)
instance : ZrT Tryd.prog 201 (List.replicate 1 .nilFunc) := zrT (by kernel_rfl)
instance : ZrT Tryd.prog 201 [.nilFunc] := zrT (by kernel_rfl)
instance : ScT Tryd.prog 202 := scT (by kernel_rfl) (by kernel_rfl)
instance : ZrT Tryd.prog 202 (List.replicate 1 .nilFunc) := zrT (by kernel_rfl)
instance : ZrT Tryd.prog 202 [.nilFunc] := zrT (by kernel_rfl)
instance : ScT Tryd.prog 203 := scT (by kernel_rfl) (by kernel_rfl)
instance : ZrT Tryd.prog 203 (List.replicate 1 .nilFunc) := zrT (by kernel_rfl)
instance : ZrT Tryd.prog 203 [.nilFunc] := zrT (by kernel_rfl)
instance : ScT Tryd.prog 204 := scT (by kernel_rfl) (by kernel_rfl)
instance : ZrT Tryd.prog 204 (List.replicate 1 .nilFunc) := zrT (by kernel_rfl)
instance : ZrT Tryd.prog 204 [.nilFunc] := zrT (by kernel_rfl)
instance : ScT Tryd.prog 205 := scT (by kernel_rfl) (by kernel_rfl)
instance : ZrT Tryd.prog 205 (List.replicate 1 .nilFunc) := zrT (by kernel_rfl)
instance : ZrT Tryd.prog 205 [.nilFunc] := zrT (by kernel_rfl)
instance : ScT Tryd.prog 206 := scT (by kernel_rfl) (by kernel_rfl)
instance : ZrT Tryd.prog 206 (List.replicate 1 .nilFunc) := zrT (by kernel_rfl)
instance : ZrT Tryd.prog 206 [.nilFunc] := zrT (by kernel_rfl)
instance : ScT Tryd.prog 207 := scT (by kernel_rfl) (by kernel_rfl)
instance : ZrT Tryd.prog 207 (List.replicate 1 .nilFunc) := zrT (by kernel_rfl)
instance : ZrT Tryd.prog 207 [.nilFunc] := zrT (by kernel_rfl)
instance : ScT Tryd.prog 208 := scT (by kernel_rfl) (by kernel_rfl)
instance : ZrT Tryd.prog 208 (List.replicate 1 .nilFunc) := zrT (by kernel_rfl)
instance : ZrT Tryd.prog 208 [.nilFunc] := zrT (by kernel_rfl)
instance : ScT Tryd.prog 209 := scT (by kernel_rfl) (by kernel_rfl)
instance : ZrT Tryd.prog 209 (List.replicate 1 .nilFunc) := zrT (by kernel_rfl)
instance : ZrT Tryd.prog 209 [.nilFunc] := zrT (by kernel_rfl)
instance : ScT Tryd.prog 210 := scT (by kernel_rfl) (by kernel_rfl)
instance : ZrT Tryd.prog 210 (List.replicate 1 .nilFunc) := zrT (by kernel_rfl)
instance : ZrT Tryd.prog 210 [.nilFunc] := zrT (by kernel_rfl)
instance : ScT Tryd.prog 211 := scT (by kernel_rfl) (by kernel_rfl)
instance : ZrT Tryd.prog 211 (List.replicate 1 .nilFunc) := zrT (by kernel_rfl)
instance : ZrT Tryd.prog 211 [.nilFunc] := zrT (by kernel_rfl)
instance : ScT Tryd.prog 212 := scT (by kernel_rfl) (by kernel_rfl)
instance : ZrT Tryd.prog 212 (List.replicate 1 .nilFunc) := zrT (by kernel_rfl)
instance : ZrT Tryd.prog 212 [.nilFunc] := zrT (by kernel_rfl)
instance : ScT Tryd.prog 213 := scT (by kernel_rfl) (by kernel_rfl)
instance : ZrT Tryd.prog 213 (List.replicate 1 .nilFunc) := zrT (by kernel_rfl)
instance : ZrT Tryd.prog 213 [.nilFunc] := zrT (by kernel_rfl)
instance : ScT Tryd.prog 215 := scT (by kernel_rfl) (by kernel_rfl)
instance : ZrT Tryd.prog 215 (List.replicate 1 .nilFunc) := zrT (by kernel_rfl)
instance : ZrT Tryd.prog 215 [.nilFunc] := zrT (by kernel_rfl)
instance : ScT Tryd.prog 216 := scT (by kernel_rfl) (by kernel_rfl)
instance : ZrT Tryd.prog 216 (List.replicate 1 .nilFunc) := zrT (by kernel_rfl)
instance : ZrT Tryd.prog 216 [.nilFunc] := zrT (by kernel_rfl)
instance : AgT Tryd.prog 217 1 := agT (by kernel_rfl) (by kernel_rfl)
instance : BdT Tryd.prog 217 [0] [.nilFunc] := bdStruct (by kernel_rfl) (by kernel_rfl) (by decide)
instance : FdT Tryd.prog 217 0 0 := fdT (u := 193) (by kernel_rfl) (by kernel_rfl)
instance : ZrT Tryd.prog 217 (List.replicate 1 .nilFunc) := zrT (by kernel_rfl)
instance : ZrT Tryd.prog 217 [.nilFunc] := zrT (by kernel_rfl)
instance : AgT Tryd.prog 218 1 := agT (by kernel_rfl) (by kernel_rfl)
instance : BdT Tryd.prog 218 [0] [.nilFunc] := bdStruct (by kernel_rfl) (by kernel_rfl) (by decide)
instance : FdT Tryd.prog 218 0 0 := fdT (u := 193) (by kernel_rfl) (by kernel_rfl)
instance : ZrT Tryd.prog 218 (List.replicate 1 .nilFunc) := zrT (by kernel_rfl)
instance : ZrT Tryd.prog 218 [.nilFunc] := zrT (by kernel_rfl)
instance : AgT Tryd.prog 219 64 := agT (by kernel_rfl) (by kernel_rfl)
instance : ZrT Tryd.prog 219 (List.replicate 64 (.int .u8 0)) := zrT (by kernel_rfl)
instance : ZrT Tryd.prog 219 [(.int .u8 0), (.int .u8 0), (.int .u8 0), (.int .u8 0), (.int .u8 0), (.int .u8 0), (.int .u8 0), (.int .u8 0), (.int .u8 0), (.int .u8 0), (.int .u8 0), (.int .u8 0), (.int .u8 0), (.int .u8 0), (.int .u8 0), (.int .u8 0), (.int .u8 0), (.int .u8 0), (.int .u8 0), (.int .u8 0), (.int .u8 0), (.int .u8 0), (.int .u8 0), (.int .u8 0), (.int .u8 0), (.int .u8 0), (.int .u8 0), (.int .u8 0), (.int .u8 0), (.int .u8 0), (.int .u8 0), (.int .u8 0), (.int .u8 0), (.int .u8 0), (.int .u8 0), (.int .u8 0), (.int .u8 0), (.int .u8 0), (.int .u8 0), (.int .u8 0), (.int .u8 0), (.int .u8 0), (.int .u8 0), (.int .u8 0), (.int .u8 0), (.int .u8 0), (.int .u8 0), (.int .u8 0), (.int .u8 0), (.int .u8 0), (.int .u8 0), (.int .u8 0), (.int .u8 0), (.int .u8 0), (.int .u8 0), (.int .u8 0), (.int .u8 0), (.int .u8 0), (.int .u8 0), (.int .u8 0), (.int .u8 0), (.int .u8 0), (.int .u8 0), (.int .u8 0)] := zrT (by kernel_rfl)
instance : ScT Tryd.prog 220 := scT (by kernel_rfl) (by kernel_rfl)
instance : ZrT Tryd.prog 220 (List.replicate 1 .nilFunc) := zrT (by kernel_rfl)
instance : ZrT Tryd.prog 220 [.nilFunc] := zrT (by kernel_rfl)
instance : ScT Tryd.prog 221 := scT (by kernel_rfl) (by kernel_rfl)
instance : ZrT Tryd.prog 221 (List.replicate 1 (.pointer none)) := zrT (by kernel_rfl)
instance : ZrT Tryd.prog 221 [(.pointer none)] := zrT (by kernel_rfl)
instance : ScT Tryd.prog 223 := scT (by kernel_rfl) (by kernel_rfl)
instance : ZrT Tryd.prog 223 (List.replicate 1 .nilFunc) := zrT (by kernel_rfl)
instance : ZrT Tryd.prog 223 [.nilFunc] := zrT (by kernel_rfl)
instance : AgT Tryd.prog 224 4 := agT (by kernel_rfl) (by kernel_rfl)
instance : BdT Tryd.prog 224 [0, 1, 2, 3] [(.pointer none), (.pointer none), (.pointer none), (.string ⟨#[]⟩)] := bdStruct (by kernel_rfl) (by kernel_rfl) (by decide)
instance : FdT Tryd.prog 224 0 0 := fdT (u := 17) (by kernel_rfl) (by kernel_rfl)
instance : FdT Tryd.prog 224 1 1 := fdT (u := 17) (by kernel_rfl) (by kernel_rfl)
instance : FdT Tryd.prog 224 2 2 := fdT (u := 17) (by kernel_rfl) (by kernel_rfl)
instance : FdT Tryd.prog 224 3 3 := fdT (u := 9) (by kernel_rfl) (by kernel_rfl)
instance : ZrT Tryd.prog 224 [(.pointer none), (.pointer none), (.pointer none), (.string ⟨#[]⟩)] := zrT (by kernel_rfl)
instance : AgT Tryd.prog 226 0 := agT (by kernel_rfl) (by kernel_rfl)
instance : BdT Tryd.prog 226 (List.range 0) [] := bdArray (n := 0) (e := 16) (by kernel_rfl) (by kernel_rfl) rfl (by kernel_rfl) rfl
instance : ZrT Tryd.prog 226 [] := zrT (by kernel_rfl)
instance : AgT Tryd.prog 227 0 := agT (by kernel_rfl) (by kernel_rfl)
instance : ZrT Tryd.prog 227 [] := zrT (by kernel_rfl)
instance : ScT Tryd.prog 229 := scT (by kernel_rfl) (by kernel_rfl)
instance : ZrT Tryd.prog 229 (List.replicate 1 .nilFunc) := zrT (by kernel_rfl)
instance : ZrT Tryd.prog 229 [.nilFunc] := zrT (by kernel_rfl)
instance : ScT Tryd.prog 230 := scT (by kernel_rfl) (by kernel_rfl)
instance : KdT Tryd.prog 230 .u32 := ⟨by kernel_rfl⟩
instance : ZrT Tryd.prog 230 (List.replicate 1 (.int .u32 0)) := zrT (by kernel_rfl)
instance : ZrT Tryd.prog 230 [(.int .u32 0)] := zrT (by kernel_rfl)
instance : ScT Tryd.prog 233 := scT (by kernel_rfl) (by kernel_rfl)
instance : ZrT Tryd.prog 233 (List.replicate 1 .nilFunc) := zrT (by kernel_rfl)
instance : ZrT Tryd.prog 233 [.nilFunc] := zrT (by kernel_rfl)
instance : ScT Tryd.prog 234 := scT (by kernel_rfl) (by kernel_rfl)
instance : ZrT Tryd.prog 234 (List.replicate 1 (.pointer none)) := zrT (by kernel_rfl)
instance : ZrT Tryd.prog 234 [(.pointer none)] := zrT (by kernel_rfl)
instance : AgT Tryd.prog 237 11 := agT (by kernel_rfl) (by kernel_rfl)
instance : BdT Tryd.prog 237 [0, 1, 2, 3, 4, 5, 6, 7, 8, 9, 10] [(.int .u64 0), (.int .u64 0), (.int .u32 0), (.int .u8 0), (.int .u8 0), (.int .u8 0), (.int .u8 0), .nilFunc, (.pointer none), (.int .i32 0), (.int .i32 0)] := bdStruct (by kernel_rfl) (by kernel_rfl) (by decide)
instance : FdT Tryd.prog 237 0 0 := fdT (u := 12) (by kernel_rfl) (by kernel_rfl)
instance : FdT Tryd.prog 237 1 1 := fdT (u := 12) (by kernel_rfl) (by kernel_rfl)
instance : FdT Tryd.prog 237 2 2 := fdT (u := 230) (by kernel_rfl) (by kernel_rfl)
instance : FdT Tryd.prog 237 3 3 := fdT (u := 231) (by kernel_rfl) (by kernel_rfl)
instance : FdT Tryd.prog 237 4 4 := fdT (u := 5) (by kernel_rfl) (by kernel_rfl)
instance : FdT Tryd.prog 237 5 5 := fdT (u := 5) (by kernel_rfl) (by kernel_rfl)
instance : FdT Tryd.prog 237 6 6 := fdT (u := 232) (by kernel_rfl) (by kernel_rfl)
instance : FdT Tryd.prog 237 7 7 := fdT (u := 233) (by kernel_rfl) (by kernel_rfl)
instance : FdT Tryd.prog 237 8 8 := fdT (u := 234) (by kernel_rfl) (by kernel_rfl)
instance : FdT Tryd.prog 237 9 9 := fdT (u := 235) (by kernel_rfl) (by kernel_rfl)
instance : FdT Tryd.prog 237 10 10 := fdT (u := 236) (by kernel_rfl) (by kernel_rfl)
instance : ZrT Tryd.prog 237 [(.int .u64 0), (.int .u64 0), (.int .u32 0), (.int .u8 0), (.int .u8 0), (.int .u8 0), (.int .u8 0), .nilFunc, (.pointer none), (.int .i32 0), (.int .i32 0)] := zrT (by kernel_rfl)
instance : ScT Tryd.prog 239 := scT (by kernel_rfl) (by kernel_rfl)
instance : ZrT Tryd.prog 239 (List.replicate 1 (.pointer none)) := zrT (by kernel_rfl)
instance : ZrT Tryd.prog 239 [(.pointer none)] := zrT (by kernel_rfl)
instance : FnT Tryd.prog 3 := fnT Tryd.func3 (by kernel_rfl)   -- standby/standbylaw47.ReverseUndoes
instance : FnT Tryd.prog 4 := fnT Tryd.func4 (by kernel_rfl)   -- standby/standbylaw47.ReverseCycles
instance : FnT Tryd.prog 5 := fnT Tryd.func5 (by kernel_rfl)   -- standby/standbylaw47.ReverseRestores
instance : FnT Tryd.prog 6 := fnT Tryd.func6 (by kernel_rfl)   -- standby/standbylaw47.ReverseSettles
instance : FnT Tryd.prog 7 := fnT Tryd.func7 (by kernel_rfl)   -- standby/standbylaw47.ReverseDiscards
instance : FnT Tryd.prog 8 := fnT Tryd.func8 (by kernel_rfl)   -- standby/standbylaw47.ReverseDivides
instance : FnT Tryd.prog 9 := fnT Tryd.func9 (by kernel_rfl)   -- standby/standbylaw47.ReverseTurns
instance : FnT Tryd.prog 10 := fnT Tryd.func10 (by kernel_rfl)   -- standby/standbyref47.Few
instance : FnT Tryd.prog 11 := fnT Tryd.func11 (by kernel_rfl)   -- standby/standbylaw47.awake
instance : FnT Tryd.prog 12 := fnT Tryd.func12 (by kernel_rfl)   -- standby/reverse.Undo
instance : FnT Tryd.prog 13 := fnT Tryd.func13 (by kernel_rfl)   -- standby/standbyref47.Undo
instance : FnT Tryd.prog 14 := fnT Tryd.func14 (by kernel_rfl)   -- standby/reverse.Extents
instance : FnT Tryd.prog 15 := fnT Tryd.func15 (by kernel_rfl)   -- standby/standbyref47.Extents
instance : FnT Tryd.prog 16 := fnT Tryd.func16 (by kernel_rfl)   -- standby/standbyref47.SameExtents
instance : FnT Tryd.prog 17 := fnT Tryd.func17 (by kernel_rfl)   -- standby/reverse.Cycle
instance : FnT Tryd.prog 18 := fnT Tryd.func18 (by kernel_rfl)   -- standby/standbyref47.Cycle
instance : FnT Tryd.prog 19 := fnT Tryd.func19 (by kernel_rfl)   -- standby/standbyref23.Same
instance : FnT Tryd.prog 20 := fnT Tryd.func20 (by kernel_rfl)   -- standby/standbylaw47.small
instance : FnT Tryd.prog 21 := fnT Tryd.func21 (by kernel_rfl)   -- standby/standbylaw47.sides
instance : FnT Tryd.prog 22 := fnT Tryd.func22 (by kernel_rfl)   -- standby/standbylaw47.image
instance : FnT Tryd.prog 23 := fnT Tryd.func23 (by kernel_rfl)   -- standby/cycle.Apply
instance : FnT Tryd.prog 24 := fnT Tryd.func24 (by kernel_rfl)   -- standby/standbyref07.Same
instance : FnT Tryd.prog 25 := fnT Tryd.func25 (by kernel_rfl)   -- standby/standbyref07.Copy
instance : FnT Tryd.prog 26 := fnT Tryd.func26 (by kernel_rfl)   -- standby/standbyref02.FromExtents
instance : FnT Tryd.prog 27 := fnT Tryd.func27 (by kernel_rfl)   -- standby/standbyref02.Get
instance : FnT Tryd.prog 28 := fnT Tryd.func28 (by kernel_rfl)   -- standby/standbyref15.Few
instance : FnT Tryd.prog 29 := fnT Tryd.func29 (by kernel_rfl)   -- standby/standbyref15.SameInts
instance : FnT Tryd.prog 30 := fnT Tryd.func30 (by kernel_rfl)   -- standby/reverse.Discarded
instance : FnT Tryd.prog 31 := fnT Tryd.func31 (by kernel_rfl)   -- standby/standbyref47.Discarded
instance : FnT Tryd.prog 32 := fnT Tryd.func32 (by kernel_rfl)   -- standby/standbyref15.Check
instance : FnT Tryd.prog 33 := fnT Tryd.func33 (by kernel_rfl)   -- standby/standbyref43.Few
instance : FnT Tryd.prog 34 := fnT Tryd.func34 (by kernel_rfl)   -- standby/reverse.Turn
instance : FnT Tryd.prog 35 := fnT Tryd.func35 (by kernel_rfl)   -- standby/standbyref47.Turn
instance : FnT Tryd.prog 36 := fnT Tryd.func36 (by kernel_rfl)   -- standby/standbyref43.Same
instance : FnT Tryd.prog 37 := fnT Tryd.func37 (by kernel_rfl)   -- standby/standbyref07.Few
instance : FnT Tryd.prog 38 := fnT Tryd.func38 (by kernel_rfl)   -- standby/standbylaw47.point
instance : FnT Tryd.prog 39 := fnT Tryd.func39 (by kernel_rfl)   -- standby/standbylaw47.one
instance : FnT Tryd.prog 40 := fnT Tryd.func40 (by kernel_rfl)   -- standby/delta.Check
instance : FnT Tryd.prog 41 := fnT Tryd.func41 (by kernel_rfl)   -- standby/reverse.last
instance : FnT Tryd.prog 42 := fnT Tryd.func42 (by kernel_rfl)   -- standby/reverse.volumes[[]standby/api.Extent]
instance : FnT Tryd.prog 43 := fnT Tryd.func43 (by kernel_rfl)   -- standby/reverse.Undo$1
instance : FnT Tryd.prog 44 := fnT Tryd.func44 (by kernel_rfl)   -- standby/bitmap.Extents
instance : FnT Tryd.prog 45 := fnT Tryd.func45 (by kernel_rfl)   -- standby/standbyref46.Check
instance : FnT Tryd.prog 46 := fnT Tryd.func46 (by kernel_rfl)   -- standby/standbyref02.Extents
instance : FnT Tryd.prog 47 := fnT Tryd.func47 (by kernel_rfl)   -- standby/delta.Between
instance : FnT Tryd.prog 48 := fnT Tryd.func48 (by kernel_rfl)   -- standby/standbyref46.Between
instance : FnT Tryd.prog 49 := fnT Tryd.func49 (by kernel_rfl)   -- standby/standbyref02.SameExtents
instance : FnT Tryd.prog 50 := fnT Tryd.func50 (by kernel_rfl)   -- standby/delta.Ancestor
instance : FnT Tryd.prog 51 := fnT Tryd.func51 (by kernel_rfl)   -- slices.Clone[[]int,int]
instance : FnT Tryd.prog 52 := fnT Tryd.func52 (by kernel_rfl)   -- slices.Clone[[]standby/api.Sector,standby/api.Sector]
instance : FnT Tryd.prog 53 := fnT Tryd.func53 (by kernel_rfl)   -- standby/cycle.Check
instance : FnT Tryd.prog 54 := fnT Tryd.func54 (by kernel_rfl)   -- standby/standbyref46.Ancestor
instance : FnT Tryd.prog 55 := fnT Tryd.func55 (by kernel_rfl)   -- standby/standbyref47.Contents
instance : FnT Tryd.prog 56 := fnT Tryd.func56 (by kernel_rfl)   -- standby/standbyref23.Check
instance : FnT Tryd.prog 57 := fnT Tryd.func57 (by kernel_rfl)   -- standby/standbyref07.SizesOf
instance : FnT Tryd.prog 58 := fnT Tryd.func58 (by kernel_rfl)   -- standby/standbyref23.SameInts
instance : FnT Tryd.prog 59 := fnT Tryd.func59 (by kernel_rfl)   -- standby/standbyref03.SameWrites
instance : FnT Tryd.prog 60 := fnT Tryd.func60 (by kernel_rfl)   -- standby/standbylaw47.fitting
instance : FnT Tryd.prog 61 := fnT Tryd.func61 (by kernel_rfl)   -- standby/standbyref07.New
instance : FnT Tryd.prog 62 := fnT Tryd.func62 (by kernel_rfl)   -- standby/image.Check
instance : FnT Tryd.prog 63 := fnT Tryd.func63 (by kernel_rfl)   -- standby/image.Apply
instance : FnT Tryd.prog 64 := fnT Tryd.func64 (by kernel_rfl)   -- standby/standbyref07.SameVolume
instance : FnT Tryd.prog 65 := fnT Tryd.func65 (by kernel_rfl)   -- standby/standbyref02.New
instance : FnT Tryd.prog 66 := fnT Tryd.func66 (by kernel_rfl)   -- standby/standbyref02.Set
instance : FnT Tryd.prog 67 := fnT Tryd.func67 (by kernel_rfl)   -- standby/standbyref02.Check
instance : FnT Tryd.prog 68 := fnT Tryd.func68 (by kernel_rfl)   -- standby/standbyref02.bit
instance : FnT Tryd.prog 69 := fnT Tryd.func69 (by kernel_rfl)   -- standby/history.Image
instance : FnT Tryd.prog 70 := fnT Tryd.func70 (by kernel_rfl)   -- slices.BinarySearch[[]int,int]
instance : FnT Tryd.prog 71 := fnT Tryd.func71 (by kernel_rfl)   -- standby/standbyref15.Set
instance : FnT Tryd.prog 72 := fnT Tryd.func72 (by kernel_rfl)   -- standby/standbyref15.Has
instance : FnT Tryd.prog 73 := fnT Tryd.func73 (by kernel_rfl)   -- standby/standbyref07.Sizes
instance : FnT Tryd.prog 74 := fnT Tryd.func74 (by kernel_rfl)   -- standby/standbyref07.FitsSizes
instance : FnT Tryd.prog 75 := fnT Tryd.func75 (by kernel_rfl)   -- standby/standbyref15.At
instance : FnT Tryd.prog 76 := fnT Tryd.func76 (by kernel_rfl)   -- standby/standbyref15.issue
instance : FnT Tryd.prog 77 := fnT Tryd.func77 (by kernel_rfl)   -- standby/standbyref43.FewBitmaps
instance : FnT Tryd.prog 78 := fnT Tryd.func78 (by kernel_rfl)   -- standby/tracker.Check
instance : FnT Tryd.prog 79 := fnT Tryd.func79 (by kernel_rfl)   -- slices.IndexFunc[[]standby/api.Peer,standby/api.Peer]
instance : FnT Tryd.prog 80 := fnT Tryd.func80 (by kernel_rfl)   -- standby/reverse.Turn$1
instance : FnT Tryd.prog 81 := fnT Tryd.func81 (by kernel_rfl)   -- standby/bitmap.FromExtents
instance : FnT Tryd.prog 82 := fnT Tryd.func82 (by kernel_rfl)   -- standby/bitmap.Or
instance : FnT Tryd.prog 83 := fnT Tryd.func83 (by kernel_rfl)   -- standby/reverse.volumes[standby/api.Bitmap]
instance : FnT Tryd.prog 84 := fnT Tryd.func84 (by kernel_rfl)   -- standby/reverse.Turn$2
instance : FnT Tryd.prog 85 := fnT Tryd.func85 (by kernel_rfl)   -- slices.Clone[[]uint64,uint64]
instance : FnT Tryd.prog 86 := fnT Tryd.func86 (by kernel_rfl)   -- standby/standbyref43.Check
instance : FnT Tryd.prog 87 := fnT Tryd.func87 (by kernel_rfl)   -- standby/standbyref02.Or
instance : FnT Tryd.prog 88 := fnT Tryd.func88 (by kernel_rfl)   -- standby/standbyref02.SameAll
instance : FnT Tryd.prog 89 := fnT Tryd.func89 (by kernel_rfl)   -- standby/standbyref07.Apply
instance : FnT Tryd.prog 90 := fnT Tryd.func90 (by kernel_rfl)   -- standby/standbyref43.Mark
instance : FnT Tryd.prog 91 := fnT Tryd.func91 (by kernel_rfl)   -- standby/standbyref43.Clean
instance : FnT Tryd.prog 92 := fnT Tryd.func92 (by kernel_rfl)   -- standby/delta.in
instance : FnT Tryd.prog 93 := fnT Tryd.func93 (by kernel_rfl)   -- standby/delta.correct
instance : FnT Tryd.prog 94 := fnT Tryd.func94 (by kernel_rfl)   -- standby/bitmap.Check
instance : FnT Tryd.prog 95 := fnT Tryd.func95 (by kernel_rfl)   -- standby/bitmap.elements
instance : FnT Tryd.prog 96 := fnT Tryd.func96 (by kernel_rfl)   -- standby/standbyref46.Lineage
instance : FnT Tryd.prog 97 := fnT Tryd.func97 (by kernel_rfl)   -- standby/standbyref07.Check
instance : FnT Tryd.prog 98 := fnT Tryd.func98 (by kernel_rfl)   -- standby/delta.alike
instance : FnT Tryd.prog 99 := fnT Tryd.func99 (by kernel_rfl)   -- standby/delta.marked
instance : FnT Tryd.prog 100 := fnT Tryd.func100 (by kernel_rfl)   -- standby/standbyref46.sameSizes
instance : FnT Tryd.prog 101 := fnT Tryd.func101 (by kernel_rfl)   -- standby/standbyref46.between
instance : FnT Tryd.prog 102 := fnT Tryd.func102 (by kernel_rfl)   -- standby/image.New
instance : FnT Tryd.prog 103 := fnT Tryd.func103 (by kernel_rfl)   -- standby/cycle.in
instance : FnT Tryd.prog 104 := fnT Tryd.func104 (by kernel_rfl)   -- standby/cycle.positions
instance : FnT Tryd.prog 105 := fnT Tryd.func105 (by kernel_rfl)   -- standby/coalesce.Check
instance : FnT Tryd.prog 106 := fnT Tryd.func106 (by kernel_rfl)   -- standby/standbyref23.positions
instance : FnT Tryd.prog 107 := fnT Tryd.func107 (by kernel_rfl)   -- standby/standbyref22.Check
instance : FnT Tryd.prog 108 := fnT Tryd.func108 (by kernel_rfl)   -- standby/standbyref03.SameSectors
instance : FnT Tryd.prog 109 := fnT Tryd.func109 (by kernel_rfl)   -- standby/standbyref07.Fits
instance : FnT Tryd.prog 110 := fnT Tryd.func110 (by kernel_rfl)   -- standby/image.checkSizes
instance : FnT Tryd.prog 111 := fnT Tryd.func111 (by kernel_rfl)   -- standby/image.sizes
instance : FnT Tryd.prog 112 := fnT Tryd.func112 (by kernel_rfl)   -- standby/image.copied
instance : FnT Tryd.prog 113 := fnT Tryd.func113 (by kernel_rfl)   -- standby/image.fits
instance : FnT Tryd.prog 114 := fnT Tryd.func114 (by kernel_rfl)   -- standby/standbyref02.change
instance : FnT Tryd.prog 115 := fnT Tryd.func115 (by kernel_rfl)   -- standby/history.check
instance : FnT Tryd.prog 116 := fnT Tryd.func116 (by kernel_rfl)   -- (standby/history.checked).isSet
instance : FnT Tryd.prog 117 := fnT Tryd.func117 (by kernel_rfl)   -- (standby/history.checked).members
instance : FnT Tryd.prog 118 := fnT Tryd.func118 (by kernel_rfl)   -- cmp.Less[int]
instance : FnT Tryd.prog 119 := fnT Tryd.func119 (by kernel_rfl)   -- slices.isNaN[int]
instance : FnT Tryd.prog 120 := fnT Tryd.func120 (by kernel_rfl)   -- standby/tracker.site
instance : FnT Tryd.prog 121 := fnT Tryd.func121 (by kernel_rfl)   -- standby/tracker.between
instance : FnT Tryd.prog 122 := fnT Tryd.func122 (by kernel_rfl)   -- standby/tracker.checkBitmaps
instance : FnT Tryd.prog 123 := fnT Tryd.func123 (by kernel_rfl)   -- standby/bitmap.New
instance : FnT Tryd.prog 124 := fnT Tryd.func124 (by kernel_rfl)   -- standby/bitmap.Set
instance : FnT Tryd.prog 125 := fnT Tryd.func125 (by kernel_rfl)   -- standby/bitmap.both
instance : FnT Tryd.prog 126 := fnT Tryd.func126 (by kernel_rfl)   -- standby/bitmap.Or$1
instance : FnT Tryd.prog 127 := fnT Tryd.func127 (by kernel_rfl)   -- standby/standbyref43.CheckBitmaps
instance : FnT Tryd.prog 128 := fnT Tryd.func128 (by kernel_rfl)   -- standby/standbyref02.both
instance : FnT Tryd.prog 129 := fnT Tryd.func129 (by kernel_rfl)   -- standby/standbyref02.Copy
instance : FnT Tryd.prog 130 := fnT Tryd.func130 (by kernel_rfl)   -- standby/standbyref02.Same
instance : FnT Tryd.prog 131 := fnT Tryd.func131 (by kernel_rfl)   -- standby/bitmap.words
instance : FnT Tryd.prog 132 := fnT Tryd.func132 (by kernel_rfl)   -- standby/bitmap.elements$1
instance : FnT Tryd.prog 133 := fnT Tryd.func133 (by kernel_rfl)   -- standby/bitmap.mask
instance : FnT Tryd.prog 134 := fnT Tryd.func134 (by kernel_rfl)   -- math/bits.TrailingZeros64
instance : FnT Tryd.prog 135 := fnT Tryd.func135 (by kernel_rfl)   -- slices.EqualFunc[standby/api.Image,standby/api.Image,[]standby/api.Sector,[]standby/api.Sector]
instance : FnT Tryd.prog 136 := fnT Tryd.func136 (by kernel_rfl)   -- standby/delta.alike$1
instance : FnT Tryd.prog 137 := fnT Tryd.func137 (by kernel_rfl)   -- standby/standbyref46.marked
instance : FnT Tryd.prog 138 := fnT Tryd.func138 (by kernel_rfl)   -- standby/image.mapped[int,[]standby/api.Sector]
instance : FnT Tryd.prog 139 := fnT Tryd.func139 (by kernel_rfl)   -- standby/image.New$1
instance : FnT Tryd.prog 140 := fnT Tryd.func140 (by kernel_rfl)   -- slices.ContainsFunc[[]int,int]
instance : FnT Tryd.prog 141 := fnT Tryd.func141 (by kernel_rfl)   -- standby/cycle.positions$1
instance : FnT Tryd.prog 142 := fnT Tryd.func142 (by kernel_rfl)   -- standby/coalesce.check
instance : FnT Tryd.prog 143 := fnT Tryd.func143 (by kernel_rfl)   -- standby/coalesce.Check$1
instance : FnT Tryd.prog 144 := fnT Tryd.func144 (by kernel_rfl)   -- standby/image.Fits
instance : FnT Tryd.prog 145 := fnT Tryd.func145 (by kernel_rfl)   -- standby/image.checkSizes$1
instance : FnT Tryd.prog 146 := fnT Tryd.func146 (by kernel_rfl)   -- standby/image.mapped[[]standby/api.Sector,int]
instance : FnT Tryd.prog 147 := fnT Tryd.func147 (by kernel_rfl)   -- standby/image.sizes$1
instance : FnT Tryd.prog 148 := fnT Tryd.func148 (by kernel_rfl)   -- standby/image.mapped[[]standby/api.Sector,[]standby/api.Sector]
instance : FnT Tryd.prog 149 := fnT Tryd.func149 (by kernel_rfl)   -- standby/standbyref02.Fits
instance : FnT Tryd.prog 150 := fnT Tryd.func150 (by kernel_rfl)   -- (*standby/history.checked).event
instance : FnT Tryd.prog 151 := fnT Tryd.func151 (by kernel_rfl)   -- (standby/history.checked).members$1
instance : FnT Tryd.prog 152 := fnT Tryd.func152 (by kernel_rfl)   -- cmp.isNaN[int]
instance : FnT Tryd.prog 153 := fnT Tryd.func153 (by kernel_rfl)   -- standby/tracker.each[standby/api.Bitmap,int,bool]
instance : FnT Tryd.prog 154 := fnT Tryd.func154 (by kernel_rfl)   -- standby/tracker.checkBitmaps$1
instance : FnT Tryd.prog 155 := fnT Tryd.func155 (by kernel_rfl)   -- standby/bitmap.Set$1
instance : FnT Tryd.prog 156 := fnT Tryd.func156 (by kernel_rfl)   -- (standby/bitmap.change).apply
instance : FnT Tryd.prog 157 := fnT Tryd.func157 (by kernel_rfl)   -- slices.IndexFunc[[]int,int]
instance : FnT Tryd.prog 158 := fnT Tryd.func158 (by kernel_rfl)   -- standby/bitmap.fits
instance : Mixed Tryd.prog := ⟨by kernel_rfl⟩
end Go.Proofs.YtiolpldihoghiaaDoor
