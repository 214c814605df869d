/- The engine, part 27: three ready operations; a cut behind a piece of code. Over any program. The engine, part 28: the rest of a slice; copy into rows of one's own. Over any program. The program's copied and Apply of an image: the contracts. Marked sectors, canonical extents, and what a cycle makes of an image, in plain Lean. What two sites that have written to the same image have marked, and their cycle, in plain Lean. The statements' small, fitting and image; the reference's New: the contracts. Lists of sectors and of writes are compared: the contracts. -/
import Derived.Test.YtiolpldihoghiaaDoorC9
import Derived.Test.YtiolpldihoghiaaDoorC10
import Derived.Test.YtiolpldihoghiaaDoorC6
import Derived.Test.YtiolpldihoghiaaDoorC5
import Derived.Test.YtiolpldihoghiaaDoorC8
namespace Go.Proofs.YtiolpldihoghiaaDoor
open Go.RowKit
set_option linter.unusedVariables false
set_option linter.unusedSimpArgs false
section
variable {P : Program} {N : Nat} {E : List (Nat × Value)} {ds : List Deferred} {ops : Array Oper} {Q Q' : Exit → Act → World → Prop} {w ws : World} {B : List Nat} {f : Nat} {li : List Bool}
theorem m_three {i j k : Nat} {oi oj ok : Oper} (hr : rdy ops li = [i, j, k]) (hi : ops[i]? = some oi) (hj : ops[j]? = some oj) (hk : ops[k]? = some ok)
    (h : St P ops (NP Q) oi N E ds w fun E' w' => (B.elem i = false → Below ws.heap.size ws w') ∧ WM P ops Q B ws f (li.set i true) N E' ds w')
    (h' : St P ops (NP Q) oj N E ds w fun E' w' => (B.elem j = false → Below ws.heap.size ws w') ∧ WM P ops Q B ws f (li.set j true) N E' ds w')
    (h2 : St P ops (NP Q) ok N E ds w fun E' w' => (B.elem k = false → Below ws.heap.size ws w') ∧ WM P ops Q B ws f (li.set k true) N E' ds w') : WM P ops Q B ws (f + 1) li N E ds w := by
  refine ⟨fun h0 => ?_, fun q hq => ?_⟩
  · rw [show Region.ready .any ops li.toArray = [i, j, k] from hr] at h0; cases h0
  · rw [show Region.ready .any ops li.toArray = [i, j, k] from hr] at hq
    simp only [List.mem_cons, List.not_mem_nil, or_false] at hq
    rcases hq with rfl | rfl | rfl
    · refine wpOp_st hi ⟨fun K' hK => h.out K' fun E' w' hh => hK E' w' ⟨fun hb _ => hh.1 hb, ?_⟩⟩
      simpa using hh.2.out
    · refine wpOp_st hj ⟨fun K' hK => h'.out K' fun E' w' hh => hK E' w' ⟨fun hb _ => hh.1 hb, ?_⟩⟩
      simpa using hh.2.out
    · refine wpOp_st hk ⟨fun K' hK => h2.out K' fun E' w' hh => hK E' w' ⟨fun hb _ => hh.1 hb, ?_⟩⟩
      simpa using hh.2.out
/-- A cut: behind it no more is known than J tells of the slots ks, and of the world. -/
structure Ct (ks : List Nat) (J : List Value → World → Prop) (N : Nat) (ds : List Deferred) (Q : Exit → Act → World → Prop) (e : Exit) (a : Act) (w : World) : Prop where
  out : match e with
    | .normal => ∃ E', a = fr N E' ds ∧ J (ks.map (get E')) w
    | e => Q e a w
theorem ct_n {ks : List Nat} {J : List Value → World → Prop} (h : J (ks.map (get E)) w) : Ct ks J N ds Q .normal (fr N E ds) w := ⟨⟨E, rfl, h⟩⟩
theorem ct_x {ks : List Nat} {J : List Value → World → Prop} {a : Act} {i : Nat} (h : Q (.exit i) a w) : Ct ks J N ds Q (.exit i) a w := ⟨h⟩
theorem ct_r {ks : List Nat} {J : List Value → World → Prop} {a : Act} (h : Q .ret a w) : Ct ks J N ds Q .ret a w := ⟨h⟩
theorem c_cut {c : Code} (ks : List Nat) (J : List Value → World → Prop) (h1 : WC P c (Ct ks J N ds Q) N E ds w) (h2 : ∀ vs E0 w', J vs w' → Q .normal (fr N (ks.zip vs ++ E0) ds) w') : WC P c Q N E ds w := by
  refine ⟨Code.wp_mono ?_ h1.out⟩
  intro e a w' hq
  have hq := hq.out
  cases e with
  | normal =>
    obtain ⟨E', rfl, hJ⟩ := hq
    rw [fr_dups ks E']
    exact h2 _ E' w' hJ
  | exit _ => exact hq
  | goto _ => exact hq
  | ret => exact hq
  | panic _ => exact hq
  | outgrown => exact hq
end
end Go.Proofs.YtiolpldihoghiaaDoor

namespace Go.Proofs.YtiolpldihoghiaaDoor
open Go.RowKit
set_option linter.unusedVariables false
set_option linter.unusedSimpArgs false
section
variable {P : Program} {N : Nat} {E : List (Nat × Value)} {ds : List Deferred} {ops : Array Oper} {rest : List Oper} {Q Q' : Exit → Act → World → Prop}
variable {d d1 : Nat} {o : Op} {dst : Option Tmp} {ty ty1 : TypeId} {pos pos1 : String} {af af1 : Array Edge} {g : Option (Nat × Bool)} {w w' ws : World} {v v' q : Value} {x y z : Operand} {T T' u : TypeId} {a b : Int}
variable {w0 : World} {M : Nat → Prop} {L : List Loc} {O : List Own} {F : List (World → Prop)} {K : List (Nat × Value) → World → Prop}
theorem rd_slice_lo {e sz by_ : Nat} [hT : SlTy P T e sz by_] {A : Option Addr} {n c l : Nat} {k : IntKind} (hx : Ev N E x (.slice A n c)) (hlo : Ev N E y (.int k a)) (e1 : a = (l : Int)) (h1 : l ≤ n) (h2 : n ≤ c) :
    Rd P ⟨dst, .slice T x (some y) none none, ty, pos, af, g⟩ N E w (.slice (subA A l sz c) (n - l) (c - l)) := by
  obtain ⟨ii, q1, q2, _⟩ := hT.inf
  subst e1
  refine ⟨fun ds w' hw => ?_⟩
  have h3 : (l : Int) ≤ (n : Int) := by omega
  have h4 : (l : Int) ≤ (c : Int) := by omega
  have h5 : l ≤ c := by omega
  simp [execOp, fr_eval hx, fr_eval hlo, Instr.sliceAt, Instr.slice, Instr.sliceBounds, Instr.sliceBound, asIntOf, underlying, hT.und, run_sizeOf_ q1, q2, h1, h2, h3, h4, h5, subA]
/-- copy into a row of one's own, out of a row that is read. -/
theorem s_copy_own {α : Type} {dd : Rp α} [hone : OneC dd] {j e sz by_ n l cv c1 n1 d2 : Nat} [hT : SlTy P T e sz by_] {A B : Option Addr} {xs : List α} {cs : List Value} (H : Hp w0 M w L O F) (hO : O[j]? = some ⟨.slice A n cv, e, sz, n, cs⟩)
    (hx : Ev N E x (.slice (subA A l sz cv) n1 c1)) (hy : Ev N E y (.slice B xs.length d2)) (hm : Row dd sz B xs ∈ F) (hpos : 0 < xs.length) (hle : l + xs.length ≤ n) (hn1 : n1 = n - l) (hcv : n ≤ cv) (hd : Nat.blt d N = true)
    (h : ∀ w' news, Chunks dd sz xs news w → news.length = xs.length * sz → Hp w0 M w' L (O.set j ⟨.slice A n cv, e, sz, n, splice cs (l * sz) news⟩) F → K ((d, .int .i64 xs.length) :: E) w') :
    St P ops Q ⟨some d, .call { callee := .builtin .copy, args := #[x, y], argTypes := #[T, T] }, ty, pos, af, none⟩ N E ds w K := by
  obtain ⟨ii, q1, q2, _⟩ := hT.inf
  obtain ⟨gg, cap, hv⟩ := own_form H hO (m := l) (by omega)
  simp only [Value.slice.injEq, true_and] at hv
  obtain ⟨rfl, rfl⟩ := hv
  obtain ⟨a1, rfl, _⟩ := (H.fact _ hm).now.at_ (by intro e; rw [e] at hpos; simp at hpos)
  obtain ⟨news, g1, g2, g3, g4⟩ := (H.fact _ hm).cells hT.pos.1
  have hown := H.own _ (List.mem_of_getElem? hO)
  have hlen : l * sz + news.length ≤ n * sz := by
    rw [g1, ← Nat.add_mul]; exact Nat.mul_le_mul_right _ hle
  obtain ⟨w1, hst, h2, h3⟩ := own_splice (P := P) (i := l * sz) hown hlen g3
  have hload := run_loadCells_list (P := P) w a1 news g2
  have hsub : subA (some ⟨gg, 0, none⟩) l sz cv = some ⟨gg, l * sz, none⟩ := by
    unfold subA
    rw [if_neg (by omega)]
    simp [add_zero_]
  rw [hsub] at hx
  have hmin : Nat.min xs.length n1 = xs.length := Nat.min_eq_left (by omega)
  have hr : (execOp (fr N E ds).eval ⟨some d, .call { callee := .builtin .copy, args := #[x, y], argTypes := #[T, T] }, ty, pos, af, none⟩).run P w = .ok (.value (.int .i64 xs.length)) w1 := by
    simp [execOp, resolve, invoke, builtin, fr_eval hx, fr_eval hy, Builtin.copy_, Builtin.lenOf, Builtin.firstCells, underlying, hT.und, run_sizeOf_ q1, q2, hmin, ← g1, hload, hst, goInt]
  exact s_run rfl hr (.inr ⟨_, _, rfl, rfl, hd, h _ news g4.now g1 (H.grow hO h3 h2 (.inl rfl))⟩)
end
end Go.Proofs.YtiolpldihoghiaaDoor

namespace Go.Proofs.YtiolpldihoghiaaDoor
open Go.RowKit
set_option linter.unusedVariables false
set_option linter.unusedSimpArgs false
set_option maxHeartbeats 8000000
theorem ca_Ap6 {k : FuncId} {vs : List Value} {w1 : World} {v : Value} (h : Ret Tryd.prog k vs w1 (fun u _ => u = v) := by first | exact imCheck_any _ _ _ _ _ (by omega) (H.fact _ mem_auto)) : Ret Tryd.prog k vs w1 (fun u _ => u = v) := h
theorem mapClone_any (M : Nat → Prop) (im : List (List Sec)) (A : Option Addr) (c : Nat) (w : World) (hM : ∀ b, M b → b < w.heap.size) (hl : im.length ≤ 1000000) (hv : ∀ l ∈ im, l.length ≤ 1000000) (hF : Stab w M (Row kVol 1 A im)) :
    Ret Tryd.prog 148 [.slice A im.length c, .func (.func 52) #[] #[]] w (FreshG gSec 61 71 8 w im) := by
  refine enter (M := M) (F := [Row kVol 1 A im]) Tryd.func148 rfl rfl rfl (by simpa using hF) fun H => ?_
  repeat' (first | (apply l_rd; exact rd_go; rfl) | (apply q_rd; exact rd_go; rfl) | refine stp ?_ | refine bk_o rfl ?_ | refine c_true ⟨rfl, rfl⟩ ?_ | refine c_false ⟨rfl, rfl⟩ ?_ | (apply l_rdg; rfl; rfl; rfl; exact rd_go; rfl) | refine l_skip rfl rfl rfl rfl ?_ | (apply q_rdg; rfl; rfl; rfl; exact rd_go; rfl) | refine q_skip rfl rfl rfl rfl ?_ | refine c_draw H (by kernel_rfl) ?_ | (refine q_end ?_; clear H; intro _ H) | ((first | refine l_st (z_box H ?_) | refine l_st (s_alloc H rfl ?_)); clear H; intro _ _ _ H) | (refine l_st (t_build0 H rfl ?_); clear H; intro _ _ _ _ H) | (refine l_st (z_sto H ?_); clear H; intro _ H) | ((first | refine c_cond ⟨rfl, rfl⟩ ?_ ?_ | refine c_ncond ⟨rfl, rfl⟩ ?_ ?_ | refine l_split rfl rfl ?_ ?_ | refine q_split rfl rfl ?_ ?_ | refine l_nsplit rfl rfl ?_ ?_ | refine q_nsplit rfl rfl ?_ ?_) <;> intro _ <;> try (exfalso; omega)) | (refine l_st (k_call1 evs_auto H ca_Ap6 rfl ?_); clear H; intro _ _ H) | (refine l_st (k_callg1 evs_auto rfl rfl rfl H ca_Ap6 rfl ?_); clear H; intro _ _ H) | refine kq_call1 evs_auto H (fun _ H => ca_Ap6) rfl ?_ | refine kq_callg1 evs_auto rfl rfl rfl H (fun _ H => ca_Ap6) rfl ?_)
  refine l_st (t_make0 (n := im.length) H ⟨rfl, rfl⟩ ⟨rfl, rfl⟩ rfl (by omega) rfl ?_)
  clear H; intro A0 c0 w1 _ H
  repeat' (first | (apply l_rd; exact rd_go; rfl) | (apply q_rd; exact rd_go; rfl) | refine stp ?_ | refine bk_o rfl ?_ | refine c_true ⟨rfl, rfl⟩ ?_ | refine c_false ⟨rfl, rfl⟩ ?_ | (apply l_rdg; rfl; rfl; rfl; exact rd_go; rfl) | refine l_skip rfl rfl rfl rfl ?_ | (apply q_rdg; rfl; rfl; rfl; exact rd_go; rfl) | refine q_skip rfl rfl rfl rfl ?_ | refine c_draw H (by kernel_rfl) ?_ | (refine q_end ?_; clear H; intro _ H) | ((first | refine l_st (z_box H ?_) | refine l_st (s_alloc H rfl ?_)); clear H; intro _ _ _ H) | (refine l_st (t_build0 H rfl ?_); clear H; intro _ _ _ _ H) | (refine l_st (z_sto H ?_); clear H; intro _ H) | ((first | refine c_cond ⟨rfl, rfl⟩ ?_ ?_ | refine c_ncond ⟨rfl, rfl⟩ ?_ ?_ | refine l_split rfl rfl ?_ ?_ | refine q_split rfl rfl ?_ ?_ | refine l_nsplit rfl rfl ?_ ?_ | refine q_nsplit rfl rfl ?_ ?_) <;> intro _ <;> try (exfalso; omega)) | (refine l_st (k_call1 evs_auto H ca_Ap6 rfl ?_); clear H; intro _ _ H) | (refine l_st (k_callg1 evs_auto rfl rfl rfl H ca_Ap6 rfl ?_); clear H; intro _ _ H) | refine kq_call1 evs_auto H (fun _ H => ca_Ap6) rfl ?_ | refine kq_callg1 evs_auto rfl rfl rfl H (fun _ H => ca_Ap6) rfl ?_)
  refine c_loopk [13, 5] [1, 11, 12] (fun n vs w' => ∃ (i : Nat) (A3 : Option Addr) (c3 : Nat) (cs : List Value), vs = [.int .i64 i, .slice A3 i c3] ∧ i ≤ im.length ∧ n = im.length - i ∧ cs.length = i ∧
      Hp w M w' [] (⟨.slice A3 i c3, 61, 1, i, cs⟩ :: inn gSec 71 8 cs (im.take i)) [Row kVol 1 A im]) _ [_, _, _] rfl ⟨0, A0, c0, [], rfl, Nat.zero_le _, rfl, rfl, H⟩ ?_
  clear H
  rintro n _ E0 w2 ⟨i, A3, c3, cs, rfl, hi, rfl, hcl, H⟩
  by_cases hi' : i < im.length
  · obtain ⟨A7, c7, _, _, H1⟩ := H.openS (dd := kSec) (sz := 8) (A := A) (xs := im) (i := i) mem_auto hi'
    clear H; have H := H1; clear H1
    have hvi := hv _ (List.getElem_mem hi')
    repeat' (first | (apply l_rd; exact rd_go; rfl) | (apply q_rd; exact rd_go; rfl) | refine stp ?_ | refine bk_o rfl ?_ | refine c_true ⟨rfl, rfl⟩ ?_ | refine c_false ⟨rfl, rfl⟩ ?_ | (apply l_rdg; rfl; rfl; rfl; exact rd_go; rfl) | refine l_skip rfl rfl rfl rfl ?_ | (apply q_rdg; rfl; rfl; rfl; exact rd_go; rfl) | refine q_skip rfl rfl rfl rfl ?_ | refine c_draw H (by kernel_rfl) ?_ | (refine q_end ?_; clear H; intro _ H) | ((first | refine l_st (z_box H ?_) | refine l_st (s_alloc H rfl ?_)); clear H; intro _ _ _ H) | (refine l_st (t_build0 H rfl ?_); clear H; intro _ _ _ _ H) | (refine l_st (z_sto H ?_); clear H; intro _ H) | ((first | refine c_cond ⟨rfl, rfl⟩ ?_ ?_ | refine c_ncond ⟨rfl, rfl⟩ ?_ ?_ | refine l_split rfl rfl ?_ ?_ | refine q_split rfl rfl ?_ ?_ | refine l_nsplit rfl rfl ?_ ?_ | refine q_nsplit rfl rfl ?_ ?_) <;> intro _ <;> try (exfalso; omega)) | (refine l_st (k_call1 evs_auto H ca_Ap6 rfl ?_); clear H; intro _ _ H) | (refine l_st (k_callg1 evs_auto rfl rfl rfl H ca_Ap6 rfl ?_); clear H; intro _ _ H) | refine kq_call1 evs_auto H (fun _ H => ca_Ap6) rfl ?_ | refine kq_callg1 evs_auto rfl rfl rfl H (fun _ H => ca_Ap6) rfl ?_)
    refine l_st (k_callv0 evs_auto ⟨rfl, rfl⟩ H (cloneSec _ (d := kSec) (im[i]'hi') A7 c7 _ (by omega) (H.fact _ mem_auto)) rfl ?_)
    intro v3 w3 hf hb _
    obtain ⟨A9, c9, news, rfl, _, _, H1⟩ := H.take' hb hf
    obtain rfl := chunks_sec (H1.fact _ (List.mem_cons_self ..)).now
    clear H hf; have H := H1; clear H1
    refine l_app (j := 1) (n := i) H rfl ⟨rfl, rfl⟩ rfl rfl rfl rfl rfl (fun _ => ⟨rfl, rfl⟩) (by omega) rfl ?_
    clear H; intro A10 c10 w6 _ _ H
    repeat' (first | (apply l_rd; exact rd_go; rfl) | (apply q_rd; exact rd_go; rfl) | refine stp ?_ | refine bk_o rfl ?_ | refine c_true ⟨rfl, rfl⟩ ?_ | refine c_false ⟨rfl, rfl⟩ ?_ | (apply l_rdg; rfl; rfl; rfl; exact rd_go; rfl) | refine l_skip rfl rfl rfl rfl ?_ | (apply q_rdg; rfl; rfl; rfl; exact rd_go; rfl) | refine q_skip rfl rfl rfl rfl ?_ | refine c_draw H (by kernel_rfl) ?_ | (refine q_end ?_; clear H; intro _ H) | ((first | refine l_st (z_box H ?_) | refine l_st (s_alloc H rfl ?_)); clear H; intro _ _ _ H) | (refine l_st (t_build0 H rfl ?_); clear H; intro _ _ _ _ H) | (refine l_st (z_sto H ?_); clear H; intro _ H) | ((first | refine c_cond ⟨rfl, rfl⟩ ?_ ?_ | refine c_ncond ⟨rfl, rfl⟩ ?_ ?_ | refine l_split rfl rfl ?_ ?_ | refine q_split rfl rfl ?_ ?_ | refine l_nsplit rfl rfl ?_ ?_ | refine q_nsplit rfl rfl ?_ ?_) <;> intro _ <;> try (exfalso; omega)) | (refine l_st (k_call1 evs_auto H ca_Ap6 rfl ?_); clear H; intro _ _ H) | (refine l_st (k_callg1 evs_auto rfl rfl rfl H ca_Ap6 rfl ?_); clear H; intro _ _ H) | refine kq_call1 evs_auto H (fun _ H => ca_Ap6) rfl ?_ | refine kq_callg1 evs_auto rfl rfl rfl H (fun _ H => ca_Ap6) rfl ?_)
    refine lk_n rfl (n' := im.length - (i + 1)) (by omega) ⟨i + 1, A10, c10, cs ++ [.slice A9 im[i].length c9], rfl, hi', rfl, by simp [hcl], ?_⟩
    have hp : (⟨.slice A9 im[i].length c9, 71, 8, im[i].length, im[i].flatMap gSec⟩ :: ⟨.slice A10 (i + 1) c10, 61, 1, i + 1, cs ++ [.slice A9 im[i].length c9]⟩ :: inn gSec 71 8 cs (im.take i) : List Own).Perm
        (⟨.slice A10 (i + 1) c10, 61, 1, i + 1, cs ++ [.slice A9 im[i].length c9]⟩ :: inn gSec 71 8 (cs ++ [.slice A9 im[i].length c9]) (im.take (i + 1))) := by
      rw [List.take_succ_eq_append_getElem hi', inn_snoc (by rw [List.length_take]; omega)]
      exact (List.Perm.swap _ _ _).trans ((List.perm_append_singleton _ _).symm.cons _)
    exact (H.perm hp).weak (List.nil_sublist _) (List.Sublist.refl _) (by simp)
  · have hi2 : i = im.length := by omega
    subst hi2
    repeat' (first | (apply l_rd; exact rd_go; rfl) | (apply q_rd; exact rd_go; rfl) | refine stp ?_ | refine bk_o rfl ?_ | refine c_true ⟨rfl, rfl⟩ ?_ | refine c_false ⟨rfl, rfl⟩ ?_ | (apply l_rdg; rfl; rfl; rfl; exact rd_go; rfl) | refine l_skip rfl rfl rfl rfl ?_ | (apply q_rdg; rfl; rfl; rfl; exact rd_go; rfl) | refine q_skip rfl rfl rfl rfl ?_ | refine c_draw H (by kernel_rfl) ?_ | (refine q_end ?_; clear H; intro _ H) | ((first | refine l_st (z_box H ?_) | refine l_st (s_alloc H rfl ?_)); clear H; intro _ _ _ H) | (refine l_st (t_build0 H rfl ?_); clear H; intro _ _ _ _ H) | (refine l_st (z_sto H ?_); clear H; intro _ H) | ((first | refine c_cond ⟨rfl, rfl⟩ ?_ ?_ | refine c_ncond ⟨rfl, rfl⟩ ?_ ?_ | refine l_split rfl rfl ?_ ?_ | refine q_split rfl rfl ?_ ?_ | refine l_nsplit rfl rfl ?_ ?_ | refine q_nsplit rfl rfl ?_ ?_) <;> intro _ <;> try (exfalso; omega)) | (refine l_st (k_call1 evs_auto H ca_Ap6 rfl ?_); clear H; intro _ _ H) | (refine l_st (k_callg1 evs_auto rfl rfl rfl H ca_Ap6 rfl ?_); clear H; intro _ _ H) | refine kq_call1 evs_auto H (fun _ H => ca_Ap6) rfl ?_ | refine kq_callg1 evs_auto rfl rfl rfl H (fun _ H => ca_Ap6) rfl ?_)
    rw [List.take_length] at H
    exact ret1 H rfl rfl rfl (H.freshG (O1 := []) (by rw [List.append_nil]; rfl) rfl hcl)
theorem copied_any (M : Nat → Prop) (im : List (List Sec)) (A : Option Addr) (c : Nat) (w : World) (hM : ∀ b, M b → b < w.heap.size) (hl : im.length ≤ 1000000) (hv : ∀ l ∈ im, l.length ≤ 1000000) (hF : Stab w M (Row kVol 1 A im)) :
    Ret Tryd.prog 112 [.slice A im.length c] w (FreshG gSec 61 71 8 w im) := by
  refine enter (M := M) (F := [Row kVol 1 A im]) Tryd.func112 rfl rfl rfl (by simpa using hF) fun H => ?_
  repeat' (first | (apply l_rd; exact rd_go; rfl) | (apply q_rd; exact rd_go; rfl) | refine stp ?_ | refine bk_o rfl ?_ | refine c_true ⟨rfl, rfl⟩ ?_ | refine c_false ⟨rfl, rfl⟩ ?_ | (apply l_rdg; rfl; rfl; rfl; exact rd_go; rfl) | refine l_skip rfl rfl rfl rfl ?_ | (apply q_rdg; rfl; rfl; rfl; exact rd_go; rfl) | refine q_skip rfl rfl rfl rfl ?_ | refine c_draw H (by kernel_rfl) ?_ | (refine q_end ?_; clear H; intro _ H) | ((first | refine l_st (z_box H ?_) | refine l_st (s_alloc H rfl ?_)); clear H; intro _ _ _ H) | (refine l_st (t_build0 H rfl ?_); clear H; intro _ _ _ _ H) | (refine l_st (z_sto H ?_); clear H; intro _ H) | ((first | refine c_cond ⟨rfl, rfl⟩ ?_ ?_ | refine c_ncond ⟨rfl, rfl⟩ ?_ ?_ | refine l_split rfl rfl ?_ ?_ | refine q_split rfl rfl ?_ ?_ | refine l_nsplit rfl rfl ?_ ?_ | refine q_nsplit rfl rfl ?_ ?_) <;> intro _ <;> try (exfalso; omega)) | (refine l_st (k_call1 evs_auto H ca_Ap6 rfl ?_); clear H; intro _ _ H) | (refine l_st (k_callg1 evs_auto rfl rfl rfl H ca_Ap6 rfl ?_); clear H; intro _ _ H) | refine kq_call1 evs_auto H (fun _ H => ca_Ap6) rfl ?_ | refine kq_callg1 evs_auto rfl rfl rfl H (fun _ H => ca_Ap6) rfl ?_)
  refine l_st (k_call evs_auto H (mapClone_any _ im A c _ (H.mu_lt hM) hl hv (H.fact _ mem_auto)) rfl ?_)
  intro v1 w1 hf hb _
  obtain ⟨A8, c8, cs, rfl, hcs, H1⟩ := H.takeG hb hf
  clear H hf; have H := H1; clear H1
  repeat' (first | (apply l_rd; exact rd_go; rfl) | (apply q_rd; exact rd_go; rfl) | refine stp ?_ | refine bk_o rfl ?_ | refine c_true ⟨rfl, rfl⟩ ?_ | refine c_false ⟨rfl, rfl⟩ ?_ | (apply l_rdg; rfl; rfl; rfl; exact rd_go; rfl) | refine l_skip rfl rfl rfl rfl ?_ | (apply q_rdg; rfl; rfl; rfl; exact rd_go; rfl) | refine q_skip rfl rfl rfl rfl ?_ | refine c_draw H (by kernel_rfl) ?_ | (refine q_end ?_; clear H; intro _ H) | ((first | refine l_st (z_box H ?_) | refine l_st (s_alloc H rfl ?_)); clear H; intro _ _ _ H) | (refine l_st (t_build0 H rfl ?_); clear H; intro _ _ _ _ H) | (refine l_st (z_sto H ?_); clear H; intro _ H) | ((first | refine c_cond ⟨rfl, rfl⟩ ?_ ?_ | refine c_ncond ⟨rfl, rfl⟩ ?_ ?_ | refine l_split rfl rfl ?_ ?_ | refine q_split rfl rfl ?_ ?_ | refine l_nsplit rfl rfl ?_ ?_ | refine q_nsplit rfl rfl ?_ ?_) <;> intro _ <;> try (exfalso; omega)) | (refine l_st (k_call1 evs_auto H ca_Ap6 rfl ?_); clear H; intro _ _ H) | (refine l_st (k_callg1 evs_auto rfl rfl rfl H ca_Ap6 rfl ?_); clear H; intro _ _ H) | refine kq_call1 evs_auto H (fun _ H => ca_Ap6) rfl ?_ | refine kq_callg1 evs_auto rfl rfl rfl H (fun _ H => ca_Ap6) rfl ?_)
  exact ret1 H rfl rfl rfl (H.freshG (O1 := []) rfl rfl hcs)
theorem putTo_splice {xs ds : List Sec} {l : Nat} (h : l + ds.length ≤ xs.length) : splice (xs.flatMap gSec) (l * 8) (ds.flatMap gSec) = (putTo xs l ds).flatMap gSec := by
  have key : ∀ (xs : List Sec) (l : Nat), (xs.flatMap gSec).take (l * 8) = (xs.take l).flatMap gSec ∧ (xs.flatMap gSec).drop (l * 8) = (xs.drop l).flatMap gSec := by
    intro xs
    induction xs with
    | nil => intro l; simp
    | cons s r ih =>
      intro l
      cases l with
      | zero => simp
      | succ l =>
        obtain ⟨i1, i2⟩ := ih l
        simp only [List.flatMap_cons, List.take_succ_cons, List.drop_succ_cons]
        have hs := gSec_len s
        rw [Nat.add_mul, Nat.one_mul, List.take_append, List.drop_append, List.take_of_length_le (by omega), List.drop_of_length_le (by omega), hs, show l * 8 + 8 - 8 = l * 8 from by omega, i1, i2]
        simp
  have hd : (ds.flatMap gSec).length = ds.length * 8 := flat_len gSec_len ds
  unfold splice putTo
  rw [hd, ← Nat.add_mul, (key xs l).1, (key xs (l + ds.length)).2, List.flatMap_append, List.flatMap_append]
theorem lendG {w0 w : World} {M : Nat → Prop} {L : List Loc} {O1 : List Own} {F : List (World → Prop)} {n c : Nat} {im : List (List Sec)} {cs : List Value} {A : Option Addr} (H : Hp w0 M w L (⟨.slice A n c, 61, 1, n, cs⟩ :: (inn gSec 71 8 cs im ++ O1)) F) (hM : ∀ b, M b → b < w0.heap.size) (hn : n = im.length) (hc : cs.length = im.length) (hok : ImOk im)
    (hbd : im.length ≤ 8 ∧ ∀ l ∈ im, l.length ≤ 4096) : Stab w (fun _ => False) (Row kVol 1 A im) := by
  obtain ⟨_, _, H1⟩ := H.sealG (dd := kSec) hM (by decide) hn hc gSec_len (fun w' l hl x hx => (hok l hl x hx).k w') ⟨by omega, fun l hl => by have := hbd.2 l hl; omega⟩
  exact (H1.fact _ (List.mem_cons_self ..)).mono fun _ h => h.elim
theorem imApply_any (M : Nat → Prop) (im : List (List Sec)) (l : List Wr) (A B : Option Addr) (c d : Nat) (w : World) (hM : ∀ b, M b → b < w.heap.size) (hl : im.length ≤ 1000000) (hF : Stab w M (Row kVol 1 A im)) (hF' : Stab w M (Row kWr 3 B l)) :
    Ret Tryd.prog 63 [.slice A im.length c, .slice B l.length d] w (ApRet w (applySp im l)) := by
  have hok := im_ok hF
  have hll := hF'.now.len
  refine enter (M := M) (F := [Row kVol 1 A im, Row kWr 3 B l]) Tryd.func63 rfl rfl rfl (by simpa using ⟨hF, hF'⟩) fun H => ?_
  repeat' (first | (apply l_rd; exact rd_go; rfl) | (apply q_rd; exact rd_go; rfl) | refine stp ?_ | refine bk_o rfl ?_ | refine c_true ⟨rfl, rfl⟩ ?_ | refine c_false ⟨rfl, rfl⟩ ?_ | (apply l_rdg; rfl; rfl; rfl; exact rd_go; rfl) | refine l_skip rfl rfl rfl rfl ?_ | (apply q_rdg; rfl; rfl; rfl; exact rd_go; rfl) | refine q_skip rfl rfl rfl rfl ?_ | (refine q_end ?_; clear H; intro _ H) | ((first | refine l_st (z_box H ?_) | refine l_st (s_alloc H rfl ?_)); clear H; intro _ _ _ H) | (refine l_st (t_build0 H rfl ?_); clear H; intro _ _ _ _ H) | (refine l_st (z_sto H ?_); clear H; intro _ H) | ((first | refine c_cond ⟨rfl, rfl⟩ ?_ ?_ | refine c_ncond ⟨rfl, rfl⟩ ?_ ?_ | refine l_split rfl rfl ?_ ?_ | refine q_split rfl rfl ?_ ?_ | refine l_nsplit rfl rfl ?_ ?_ | refine q_nsplit rfl rfl ?_ ?_) <;> intro _ <;> try (exfalso; omega)) | (refine l_st (k_call1 evs_auto H ca_Ap6 rfl ?_); clear H; intro _ _ H) | (refine l_st (k_callg1 evs_auto rfl rfl rfl H ca_Ap6 rfl ?_); clear H; intro _ _ H) | refine kq_call1 evs_auto H (fun _ H => ca_Ap6) rfl ?_ | refine kq_callg1 evs_auto rfl rfl rfl H (fun _ H => ca_Ap6) rfl ?_)
  · have hbad : imErr im ≠ 0 := by assumption
    exact ret3 H rfl rfl rfl rfl rfl (ap_bad (by unfold applySp; rw [if_pos hbad]))
  have hz : imErr im = 0 := by omega
  obtain ⟨z1, z2, z3⟩ := sizesErr_zero hz
  have hsl := sizesOf_len im
  have hvl : ∀ x ∈ im, x.length ≤ 4096 := fun x hx => by
    have := z3 (x.length : Int) (List.mem_map.2 ⟨x, hx, rfl⟩); omega
  refine l_st (k_call evs_auto H (copied_any _ im A c _ (H.mu_lt hM) (by omega) (fun x hx => by have := hvl x hx; omega) (H.fact _ mem_auto)) rfl ?_)
  intro v1 w1 hf1 hb1 _
  obtain ⟨A8, c8, cs, rfl, hcs, H1⟩ := H.takeG hb1 hf1
  clear H hf1; have H := H1; clear H1
  repeat' (first | (apply l_rd; exact rd_go; rfl) | (apply q_rd; exact rd_go; rfl) | refine stp ?_ | refine bk_o rfl ?_ | refine c_true ⟨rfl, rfl⟩ ?_ | refine c_false ⟨rfl, rfl⟩ ?_ | (apply l_rdg; rfl; rfl; rfl; exact rd_go; rfl) | refine l_skip rfl rfl rfl rfl ?_ | (apply q_rdg; rfl; rfl; rfl; exact rd_go; rfl) | refine q_skip rfl rfl rfl rfl ?_ | (refine q_end ?_; clear H; intro _ H) | ((first | refine l_st (z_box H ?_) | refine l_st (s_alloc H rfl ?_)); clear H; intro _ _ _ H) | (refine l_st (t_build0 H rfl ?_); clear H; intro _ _ _ _ H) | (refine l_st (z_sto H ?_); clear H; intro _ H) | ((first | refine c_cond ⟨rfl, rfl⟩ ?_ ?_ | refine c_ncond ⟨rfl, rfl⟩ ?_ ?_ | refine l_split rfl rfl ?_ ?_ | refine q_split rfl rfl ?_ ?_ | refine l_nsplit rfl rfl ?_ ?_ | refine q_nsplit rfl rfl ?_ ?_) <;> intro _ <;> try (exfalso; omega)) | (refine l_st (k_call1 evs_auto H ca_Ap6 rfl ?_); clear H; intro _ _ H) | (refine l_st (k_callg1 evs_auto rfl rfl rfl H ca_Ap6 rfl ?_); clear H; intro _ _ H) | refine kq_call1 evs_auto H (fun _ H => ca_Ap6) rfl ?_ | refine kq_callg1 evs_auto rfl rfl rfl H (fun _ H => ca_Ap6) rfl ?_)
  have hsp : applySp im l = applyGo (sizesOf im) im ((0 : Nat) : Int) (l.drop 0) := by unfold applySp; rw [if_neg (by omega)]; rfl
  rw [hsp]
  clear hsp
  refine c_loopk [21] [8, 19, 20] (fun n vs w' => ∃ (i : Nat) (out : List (List Sec)), vs = [.int .i64 i] ∧ i ≤ l.length ∧ n = l.length - i ∧ sizesOf out = sizesOf im ∧ out.length = im.length ∧ ImOk out ∧
      applyGo (sizesOf im) im ((0 : Nat) : Int) (l.drop 0) = applyGo (sizesOf im) out (i : Int) (l.drop i) ∧
      Hp w M w' [] (⟨.slice A8 im.length c8, 61, 1, im.length, cs⟩ :: (inn gSec 71 8 cs out ++ [])) [Row kVol 1 A im, Row kWr 3 B l]) _ [_, _, _] rfl
      ⟨0, im, rfl, Nat.zero_le _, rfl, rfl, rfl, hok, rfl, H⟩ ?_
  clear H
  rintro n _ E0 w2 ⟨i, out, rfl, hi, rfl, hos, hol, hook, hgo, H⟩
  rw [hgo]
  clear hgo
  by_cases hi' : i < l.length
  · obtain ⟨A5, c5, r1, r2, q1, q2, H1⟩ := H.openWr (A := B) (xs := l) (i := i) mem_auto hi'
    clear H; have H := H1; clear H1
    have hdl := (H.fact (Row kSec 8 A5 l[i].data) mem_auto).now.len
    have hdok := sec_ok (H.fact (Row kSec 8 A5 l[i].data) mem_auto)
    have hol8 := lens_of hz hos
    repeat' (first | (apply l_rd; exact rd_go; rfl) | (apply q_rd; exact rd_go; rfl) | refine stp ?_ | refine bk_o rfl ?_ | refine c_true ⟨rfl, rfl⟩ ?_ | refine c_false ⟨rfl, rfl⟩ ?_ | (apply l_rdg; rfl; rfl; rfl; exact rd_go; rfl) | refine l_skip rfl rfl rfl rfl ?_ | (apply q_rdg; rfl; rfl; rfl; exact rd_go; rfl) | refine q_skip rfl rfl rfl rfl ?_ | (refine q_end ?_; clear H; intro _ H) | ((first | refine l_st (z_box H ?_) | refine l_st (s_alloc H rfl ?_)); clear H; intro _ _ _ H) | (refine l_st (t_build0 H rfl ?_); clear H; intro _ _ _ _ H) | (refine l_st (z_sto H ?_); clear H; intro _ H) | ((first | refine c_cond ⟨rfl, rfl⟩ ?_ ?_ | refine c_ncond ⟨rfl, rfl⟩ ?_ ?_ | refine l_split rfl rfl ?_ ?_ | refine q_split rfl rfl ?_ ?_ | refine l_nsplit rfl rfl ?_ ?_ | refine q_nsplit rfl rfl ?_ ?_) <;> intro _ <;> try (exfalso; omega)) | (refine l_st (k_call1 evs_auto H ca_Ap6 rfl ?_); clear H; intro _ _ H) | (refine l_st (k_callg1 evs_auto rfl rfl rfl H ca_Ap6 rfl ?_); clear H; intro _ _ H) | refine kq_call1 evs_auto H (fun _ H => ca_Ap6) rfl ?_ | refine kq_callg1 evs_auto rfl rfl rfl H (fun _ H => ca_Ap6) rfl ?_)
    have hrow := lendG H hM hol.symm (hcs.trans hol.symm) hook hol8
    have hfit := fits_at (fun _ => False) out l[i] A8 A5 c8 c5 _ r1 r2 hdl (by omega) hrow
    rw [hol] at hfit
    refine l_st (k_call1 evs_auto H hfit rfl ?_)
    clear H hfit; intro w4 _ H
    repeat' (first | (apply l_rd; exact rd_go; rfl) | (apply q_rd; exact rd_go; rfl) | refine stp ?_ | refine bk_o rfl ?_ | refine c_true ⟨rfl, rfl⟩ ?_ | refine c_false ⟨rfl, rfl⟩ ?_ | (apply l_rdg; rfl; rfl; rfl; exact rd_go; rfl) | refine l_skip rfl rfl rfl rfl ?_ | (apply q_rdg; rfl; rfl; rfl; exact rd_go; rfl) | refine q_skip rfl rfl rfl rfl ?_ | (refine q_end ?_; clear H; intro _ H) | ((first | refine l_st (z_box H ?_) | refine l_st (s_alloc H rfl ?_)); clear H; intro _ _ _ H) | (refine l_st (t_build0 H rfl ?_); clear H; intro _ _ _ _ H) | (refine l_st (z_sto H ?_); clear H; intro _ H) | ((first | refine c_cond ⟨rfl, rfl⟩ ?_ ?_ | refine c_ncond ⟨rfl, rfl⟩ ?_ ?_ | refine l_split rfl rfl ?_ ?_ | refine q_split rfl rfl ?_ ?_ | refine l_nsplit rfl rfl ?_ ?_ | refine q_nsplit rfl rfl ?_ ?_) <;> intro _ <;> try (exfalso; omega)) | (refine l_st (k_call1 evs_auto H ca_Ap6 rfl ?_); clear H; intro _ _ H) | (refine l_st (k_callg1 evs_auto rfl rfl rfl H ca_Ap6 rfl ?_); clear H; intro _ _ H) | refine kq_call1 evs_auto H (fun _ H => ca_Ap6) rfl ?_ | refine kq_callg1 evs_auto rfl rfl rfl H (fun _ H => ca_Ap6) rfl ?_)
    · have hbad : fitsErr (sizesOf out) l[i] ≠ 0 := by assumption
      rw [hos] at hbad
      exact ret3 H rfl rfl rfl rfl rfl (ap_bad (by rw [applyGo_bad hi' hbad, hos]))
    have hgood : ¬ fitsErr (sizesOf out) l[i] ≠ 0 := by assumption
    have hgood' := hgood
    rw [hos] at hgood'
    rw [applyGo_good hi' hgood']
    obtain ⟨v1, v2, hv, v3⟩ := fits_at_vol hgood
    have hdp : 0 < l[i].data.length := (fits_in (sizes := sizesOf im) (by omega) hz).2.2.1
    have hpw := putW_at (x := l[i]) hv
    have hsz := putW_sizes hgood
    have hpok := putW_ok (x := l[i]) hook hdok
    have hpl := putW_len out l[i]
    have hcv : (l[i].vol.toNat) < cs.length := by omega
    have hbv := hol8.2 _ (List.getElem_mem hv)
    have H1 := H.perm (inn_out (List.getElem?_eq_getElem hcv) (List.getElem?_eq_getElem hv))
    obtain ⟨Av, cv, hcv1, hcv2, hcv3⟩ := own_sl (j := 0) H1 rfl
    have hcx : cs[l[i].vol.toNat * 1 + 0]? = some (.slice Av out[l[i].vol.toNat].length cv) := by rw [Nat.mul_one, Nat.add_zero, List.getElem?_eq_getElem hcv, hcv1]
    rw [hcv1] at H1
    clear H; have H := H1; clear H1
    have hins := fun (l' : List Sec) => inn_in (f := gSec) (e := 71) (sz := 8) (cs := cs) (im := out) (i := l[i].vol.toNat) (q := cs[l[i].vol.toNat]) (l := l') (o := ⟨.slice A8 im.length c8, 61, 1, im.length, cs⟩) (O1 := []) (List.getElem?_eq_getElem hcv) hv
    rw [hcv1] at hins
    generalize hbase : out[l[i].vol.toNat] = base at *
    generalize hrest : (inn gSec 71 8 cs out).eraseIdx l[i].vol.toNat ++ [] = O1 at *
    refine c_mix H [10] ?_
    clear H; intro w5 H
    (apply m_rd2 (i := 0) rfl (by decide +kernel) (by first | exact Below.refl _ _ | assumption); exact rd_go; rfl); (apply m_rd2 (i := 1) rfl (by decide +kernel) (by first | exact Below.refl _ _ | assumption); exact rd_go; rfl); (apply m_rd2 (i := 2) rfl (by decide +kernel) (by first | exact Below.refl _ _ | assumption); exact rd_go; rfl)
    apply m_rd2 (i := 3) rfl (by decide +kernel) (by first | exact Below.refl _ _ | assumption)
    exact rd_index_own (j := 1) (m := l[i].vol.toNat) (v := .slice _ _ _) H rfl ⟨rfl, rfl⟩ ⟨rfl, rfl⟩ (by omega) (by omega)
    rfl
    apply m_rd2 (i := 4) rfl (by decide +kernel) (by first | exact Below.refl _ _ | assumption)
    exact rd_load_op (j := 1) H ⟨rfl, rfl⟩ rfl (by omega) hcx
    rfl
    (apply m_rd2 (i := 5) rfl (by decide +kernel) (by first | exact Below.refl _ _ | assumption); exact rd_go; rfl); (apply m_rd2 (i := 6) rfl (by decide +kernel) (by first | exact Below.refl _ _ | assumption); exact rd_go; rfl)
    apply m_rd2 (i := 7) rfl (by decide +kernel) (by first | exact Below.refl _ _ | assumption)
    exact rd_slice_lo (l := l[i].start.toNat) ⟨rfl, rfl⟩ ⟨rfl, rfl⟩ (by omega) (by omega) hcv2
    rfl
    (apply m_rd2 (i := 8) rfl (by decide +kernel) (by first | exact Below.refl _ _ | assumption); exact rd_go; rfl); (apply m_rd2 (i := 9) rfl (by decide +kernel) (by first | exact Below.refl _ _ | assumption); exact rd_go; rfl)
    refine m_one (i := 10) (by kernel_rfl) rfl (s_copy_own (j := 0) (l := l[i].start.toNat) (dd := kSec) (xs := l[i].data) H rfl ⟨rfl, rfl⟩ ⟨rfl, rfl⟩ mem_auto hdp (by omega) rfl hcv2 rfl ?_)
    intro w6 news hch _ H6
    obtain rfl := chunks_sec hch
    refine ⟨fun h => (by cases h), m_end (by kernel_rfl) ?_⟩
    clear H; have H := H6; clear H6
    rw [putTo_splice v3] at H
    repeat' (first | (apply l_rd; exact rd_go; rfl) | (apply q_rd; exact rd_go; rfl) | refine stp ?_ | refine bk_o rfl ?_ | refine c_true ⟨rfl, rfl⟩ ?_ | refine c_false ⟨rfl, rfl⟩ ?_ | (apply l_rdg; rfl; rfl; rfl; exact rd_go; rfl) | refine l_skip rfl rfl rfl rfl ?_ | (apply q_rdg; rfl; rfl; rfl; exact rd_go; rfl) | refine q_skip rfl rfl rfl rfl ?_ | (refine q_end ?_; clear H; intro _ H) | ((first | refine l_st (z_box H ?_) | refine l_st (s_alloc H rfl ?_)); clear H; intro _ _ _ H) | (refine l_st (t_build0 H rfl ?_); clear H; intro _ _ _ _ H) | (refine l_st (z_sto H ?_); clear H; intro _ H) | ((first | refine c_cond ⟨rfl, rfl⟩ ?_ ?_ | refine c_ncond ⟨rfl, rfl⟩ ?_ ?_ | refine l_split rfl rfl ?_ ?_ | refine q_split rfl rfl ?_ ?_ | refine l_nsplit rfl rfl ?_ ?_ | refine q_nsplit rfl rfl ?_ ?_) <;> intro _ <;> try (exfalso; omega)) | (refine l_st (k_call1 evs_auto H ca_Ap6 rfl ?_); clear H; intro _ _ H) | (refine l_st (k_callg1 evs_auto rfl rfl rfl H ca_Ap6 rfl ?_); clear H; intro _ _ H) | refine kq_call1 evs_auto H (fun _ H => ca_Ap6) rfl ?_ | refine kq_callg1 evs_auto rfl rfl rfl H (fun _ H => ca_Ap6) rfl ?_)
    have e1 : (putTo base l[i].start.toNat l[i].data).length = base.length := putTo_len v3
    have hp := hins (putTo base l[i].start.toNat l[i].data)
    rw [e1, ← hpw] at hp
    exact lk_n rfl (n' := l.length - (i + 1)) (by omega) ⟨i + 1, putW out l[i], rfl, hi', rfl, hsz.trans hos, hpl.trans hol, hpok, rfl, (H.perm hp).weak (List.nil_sublist _) (List.Sublist.refl _) (by simp)⟩
  · have hi2 : i = l.length := by omega
    repeat' (first | (apply l_rd; exact rd_go; rfl) | (apply q_rd; exact rd_go; rfl) | refine stp ?_ | refine bk_o rfl ?_ | refine c_true ⟨rfl, rfl⟩ ?_ | refine c_false ⟨rfl, rfl⟩ ?_ | (apply l_rdg; rfl; rfl; rfl; exact rd_go; rfl) | refine l_skip rfl rfl rfl rfl ?_ | (apply q_rdg; rfl; rfl; rfl; exact rd_go; rfl) | refine q_skip rfl rfl rfl rfl ?_ | (refine q_end ?_; clear H; intro _ H) | ((first | refine l_st (z_box H ?_) | refine l_st (s_alloc H rfl ?_)); clear H; intro _ _ _ H) | (refine l_st (t_build0 H rfl ?_); clear H; intro _ _ _ _ H) | (refine l_st (z_sto H ?_); clear H; intro _ H) | ((first | refine c_cond ⟨rfl, rfl⟩ ?_ ?_ | refine c_ncond ⟨rfl, rfl⟩ ?_ ?_ | refine l_split rfl rfl ?_ ?_ | refine q_split rfl rfl ?_ ?_ | refine l_nsplit rfl rfl ?_ ?_ | refine q_nsplit rfl rfl ?_ ?_) <;> intro _ <;> try (exfalso; omega)) | (refine l_st (k_call1 evs_auto H ca_Ap6 rfl ?_); clear H; intro _ _ H) | (refine l_st (k_callg1 evs_auto rfl rfl rfl H ca_Ap6 rfl ?_); clear H; intro _ _ H) | refine kq_call1 evs_auto H (fun _ H => ca_Ap6) rfl ?_ | refine kq_callg1 evs_auto rfl rfl rfl H (fun _ H => ca_Ap6) rfl ?_)
    rw [applyGo_end (by omega)]
    exact ret3 H rfl rfl rfl rfl rfl ⟨_, rfl, H.freshG (O1 := []) (by rw [hol]; rfl) rfl (hcs.trans hol.symm)⟩
end Go.Proofs.YtiolpldihoghiaaDoor

namespace Go.Proofs.YtiolpldihoghiaaDoor
open Go.RowKit
set_option linter.unusedVariables false
/-! ### The canonical list of a set -/
structure Canon (N : Nat) (f : Nat → Bool) (l : List Ext) : Prop where
  pos : ∀ e ∈ l, 0 ≤ e.start ∧ 1 ≤ e.count ∧ e.start + e.count ≤ N
  chain : l.Pairwise fun a b => a.start + a.count < b.start
  cov : ∀ k, k < N → (f k = true ↔ ∃ e ∈ l, inExt e k = true)
theorem inExt_iff {e : Ext} {k : Nat} : inExt e k = true ↔ e.start ≤ k ∧ (k : Int) < e.start + e.count := by unfold inExt; rw [decide_eq_true_iff]
theorem addExt_snoc {ys : List Ext} {e : Ext} {i : Int} : addExt (ys ++ [e]) i = if e.start + e.count = i then ys ++ [⟨e.start, e.count + 1⟩] else ys ++ [e] ++ [⟨i, 1⟩] := by
  unfold addExt
  rw [List.getLast?_append]
  simp only [List.getLast?_singleton, Option.some_or]
  split
  · rw [List.length_append, List.length_singleton, Nat.add_sub_cancel, List.set_append_right _ _ (Nat.le_refl _), Nat.sub_self]; rfl
  · rfl
theorem canon_upto (f : Nat → Bool) : ∀ n, Canon n f (extsUpto f n)
  | 0 => ⟨fun e he => (by cases he), List.Pairwise.nil, fun k hk => (by omega)⟩
  | n + 1 => by
    have ih := canon_upto f n
    rw [extsUpto]
    generalize extsUpto f n = l at ih
    by_cases hf : f n = true
    · rw [if_pos hf]
      rcases List.eq_nil_or_concat l with rfl | ⟨ys, e, rfl⟩
      · refine ⟨fun e he => ?_, by simp [addExt], fun k hk => ?_⟩
        · simp [addExt] at he; subst he; simp only; omega
        · have h0 := ih.cov k
          simp only [addExt, List.getLast?_nil, List.nil_append, List.mem_singleton, exists_eq_left, inExt_iff]
          by_cases h : k = n
          · subst h; exact ⟨fun _ => (by omega), fun _ => hf⟩
          · have := h0 (by omega)
            simp only [List.not_mem_nil, false_and, exists_false, iff_false] at this
            exact ⟨fun h1 => absurd h1 this, fun h1 => absurd h1 (by omega)⟩
      · rw [List.concat_eq_append] at ih ⊢
        obtain ⟨hp, hc, hcv⟩ := ih
        obtain ⟨q1, q2, q3⟩ := List.pairwise_append.1 hc
        have pe := hp e (by simp)
        rw [addExt_snoc]
        split
        · rename_i he
          refine ⟨fun x hx => ?_, List.pairwise_append.2 ⟨q1, by simp, fun a ha b hb => ?_⟩, fun k hk => ?_⟩
          · rcases List.mem_append.1 hx with hx | hx
            · have := hp x (List.mem_append_left _ hx); omega
            · obtain rfl := List.mem_singleton.1 hx; simp only; omega
          · obtain rfl := List.mem_singleton.1 hb
            exact q3 a ha e (by simp)
          · by_cases h : k = n
            · subst h
              exact ⟨fun _ => ⟨⟨e.start, e.count + 1⟩, by simp, inExt_iff.2 (by simp only; omega)⟩, fun _ => hf⟩
            · rw [hcv k (by omega)]
              constructor
              · rintro ⟨x, hx, hi⟩
                rcases List.mem_append.1 hx with hx | hx
                · exact ⟨x, List.mem_append_left _ hx, hi⟩
                · obtain rfl := List.mem_singleton.1 hx
                  exact ⟨⟨x.start, x.count + 1⟩, by simp, inExt_iff.2 (by have := inExt_iff.1 hi; simp only; omega)⟩
              · rintro ⟨x, hx, hi⟩
                rcases List.mem_append.1 hx with hx | hx
                · exact ⟨x, List.mem_append_left _ hx, hi⟩
                · obtain rfl := List.mem_singleton.1 hx
                  exact ⟨e, by simp, inExt_iff.2 (by have := inExt_iff.1 hi; simp only at this; omega)⟩
        · rename_i he
          refine ⟨fun x hx => ?_, List.pairwise_append.2 ⟨hc, by simp, fun a ha b hb => ?_⟩, fun k hk => ?_⟩
          · rcases List.mem_append.1 hx with hx | hx
            · have := hp x hx; omega
            · obtain rfl := List.mem_singleton.1 hx; simp only; omega
          · obtain rfl := List.mem_singleton.1 hb
            simp only
            rcases List.mem_append.1 ha with ha | ha
            · have h1 := q3 a ha e (by simp)
              have h2 := hp a (List.mem_append_left _ ha)
              omega
            · obtain rfl := List.mem_singleton.1 ha; omega
          · by_cases h : k = n
            · subst h
              exact ⟨fun _ => ⟨⟨k, 1⟩, by simp, inExt_iff.2 (by simp only; omega)⟩, fun _ => hf⟩
            · rw [hcv k (by omega)]
              constructor
              · rintro ⟨x, hx, hi⟩; exact ⟨x, List.mem_append_left _ hx, hi⟩
              · rintro ⟨x, hx, hi⟩
                rcases List.mem_append.1 hx with hx | hx
                · exact ⟨x, hx, hi⟩
                · obtain rfl := List.mem_singleton.1 hx
                  have := inExt_iff.1 hi; simp only at this; omega
    · rw [if_neg hf]
      obtain ⟨hp, hc, hcv⟩ := ih
      refine ⟨fun x hx => by have := hp x hx; omega, hc, fun k hk => ?_⟩
      by_cases h : k = n
      · subst h
        constructor
        · intro h; exact absurd h hf
        · rintro ⟨x, hx, hi⟩
          have := inExt_iff.1 hi; have := hp x hx; omega
      · exact hcv k (by omega)
/-! ### One sector of an image -/
def pix (im : List (List Sec)) (v k : Nat) : Option Sec := (im[v]?).bind fun l => l[k]?
theorem im_ext {a b : List (List Sec)} (hs : sizesOf a = sizesOf b) (h : ∀ v k, pix a v k = pix b v k) : a = b := by
  have hl : a.length = b.length := by rw [← sizesOf_len a, ← sizesOf_len b, hs]
  apply List.ext_getElem hl
  intro v h1 h2
  have e : a[v].length = b[v].length := by
    have e1 := sizesOf_at h1 (by rw [sizesOf_len]; exact h1)
    have e2 := sizesOf_at h2 (by rw [sizesOf_len]; exact h2)
    have : (sizesOf a)[v]'(by rw [sizesOf_len]; exact h1) = (sizesOf b)[v]'(by rw [sizesOf_len]; exact h2) := by simp only [hs]
    rw [e1, e2] at this; omega
  apply List.ext_getElem?
  intro k
  have := h v k
  unfold pix at this
  rwa [List.getElem?_eq_getElem h1, List.getElem?_eq_getElem h2] at this
def hits (x : Wr) (v k : Nat) : Bool := decide (x.vol = v) && inExt ⟨x.start, x.data.length⟩ k
def covers (l : List Wr) (v k : Nat) : Bool := l.any fun x => hits x v k
theorem covers_cons (x : Wr) (r : List Wr) (v k : Nat) : covers (x :: r) v k = (hits x v k || covers r v k) := rfl
theorem pix_putW {im : List (List Sec)} {x : Wr} (hf : ¬ fitsErr (sizesOf im) x ≠ 0) (v k : Nat) : pix (putW im x) v k = if hits x v k = true then x.data[k - x.start.toNat]? else pix im v k := by
  obtain ⟨h1, h2, hv, h3⟩ := fits_at_vol hf
  rw [putW_at hv]
  unfold pix
  rw [List.getElem?_set]
  by_cases hv' : x.vol.toNat = v
  · subst hv'
    rw [if_pos rfl, if_pos hv, List.getElem?_eq_getElem hv, Option.bind_some, Option.bind_some, putTo_get h3]
    have : hits x x.vol.toNat k = true ↔ x.start.toNat ≤ k ∧ k < x.start.toNat + x.data.length := by
      unfold hits; rw [Bool.and_eq_true, decide_eq_true_iff, inExt_iff]; simp only; omega
    by_cases hk : hits x x.vol.toNat k = true
    · rw [if_pos hk, if_pos (this.1 hk)]
    · rw [if_neg hk, if_neg (fun h => hk (this.2 h))]
  · rw [if_neg hv', if_neg]
    unfold hits
    rw [Bool.and_eq_true, decide_eq_true_iff]; omega
/-- Writes that fit, one behind the other. -/
def putAll (im : List (List Sec)) (l : List Wr) : List (List Sec) := l.foldl putW im
theorem applyGo_fit {sizes : List Int} : ∀ (l : List Wr) (out : List (List Sec)) (i : Int), sizesOf out = sizes → (∀ x ∈ l, fitsErr sizes x = 0) → applyGo sizes out i l = (putAll out l, 0, 0) ∧ sizesOf (putAll out l) = sizes
  | [], out, i, h, _ => ⟨rfl, h⟩
  | x :: r, out, i, h, hx => by
    have h0 := hx x (List.mem_cons_self ..)
    rw [applyGo, if_neg (by omega)]
    exact applyGo_fit r _ _ ((putW_sizes (by rw [h]; omega)).trans h) fun y hy => hx y (List.mem_cons_of_mem _ hy)
theorem applySp_fit {im : List (List Sec)} {l : List Wr} (hz : imErr im = 0) (h : ∀ x ∈ l, fitsErr (sizesOf im) x = 0) : applySp im l = (putAll im l, 0, 0) ∧ sizesOf (putAll im l) = sizesOf im := by
  unfold applySp; rw [if_neg (by omega)]; exact applyGo_fit l im 0 rfl h
theorem pix_putAll {sizes : List Int} : ∀ (l : List Wr) (im : List (List Sec)), sizesOf im = sizes → (∀ x ∈ l, fitsErr sizes x = 0) → ∀ v k, covers l v k = false → pix (putAll im l) v k = pix im v k
  | [], im, _, _, v, k, _ => rfl
  | x :: r, im, hs, hf, v, k, hc => by
    simp only [covers, List.any_cons, Bool.or_eq_false_iff] at hc
    have h0 := hf x (List.mem_cons_self ..)
    have := pix_putAll r (putW im x) ((putW_sizes (by rw [hs]; omega)).trans hs) (fun y hy => hf y (List.mem_cons_of_mem _ hy)) v k hc.2
    show pix (putAll (putW im x) r) v k = _
    rw [this, pix_putW (by rw [hs]; omega), if_neg (by rw [hc.1]; simp)]
/-- Writes that carry B's sectors. -/
def Carry (B : List (List Sec)) (x : Wr) : Prop := ∀ v k, hits x v k = true → x.data[k - x.start.toNat]? = pix B v k
theorem pix_carry {B : List (List Sec)} {sizes : List Int} : ∀ (l : List Wr) (im : List (List Sec)), sizesOf im = sizes → (∀ x ∈ l, fitsErr sizes x = 0) → (∀ x ∈ l, Carry B x) → ∀ v k, pix (putAll im l) v k = if covers l v k = true then pix B v k else pix im v k
  | [], im, _, _, _, v, k => by simp [covers, putAll]
  | x :: r, im, hs, hf, hC, v, k => by
    have h0 := hf x (List.mem_cons_self ..)
    have ih := pix_carry r (putW im x) ((putW_sizes (by rw [hs]; omega)).trans hs) (fun y hy => hf y (List.mem_cons_of_mem _ hy)) (fun y hy => hC y (List.mem_cons_of_mem _ hy)) v k
    show pix (putAll (putW im x) r) v k = _
    rw [ih, pix_putW (by rw [hs]; omega)]
    rw [covers_cons]
    by_cases h1 : covers r v k = true
    · rw [if_pos h1, if_pos (by rw [h1]; simp)]
    · rw [if_neg h1]
      by_cases h2 : hits x v k = true
      · rw [if_pos h2, if_pos (by rw [h2]; rfl), hC x (List.mem_cons_self ..) v k h2]
      · rw [if_neg h2, if_neg (by simp only [Bool.not_eq_true] at h1 h2; rw [h1, h2]; simp)]
/-! ### The contents of extents -/
/-- Lists of extents that lie well in an image. -/
structure InIm (B : List (List Sec)) (l : List (List Ext)) : Prop where
  len : l.length = B.length
  pos : ∀ v (h : v < B.length) (h' : v < l.length), ∀ e ∈ l[v], 0 ≤ e.start ∧ 1 ≤ e.count ∧ e.start + e.count ≤ B[v].length
  chain : ∀ v (h : v < l.length), l[v].Pairwise fun a b => a.start + a.count < b.start
theorem mkW_len {B : List (List Sec)} {v : Nat} (hv : v < B.length) {e : Ext} (h1 : 0 ≤ e.start) (h2 : 1 ≤ e.count) (h3 : e.start + e.count ≤ B[v].length) : (mkW B v e).data.length = e.count.toNat := by
  unfold mkW
  rw [List.getElem?_eq_getElem hv]
  simp only [Option.getD_some, List.length_take, List.length_drop]; omega
theorem mkW_fits {B : List (List Sec)} {v : Nat} (hv : v < B.length) {e : Ext} (h1 : 0 ≤ e.start) (h2 : 1 ≤ e.count) (h3 : e.start + e.count ≤ B[v].length) : fitsErr (sizesOf B) (mkW B v e) = 0 := by
  have hl := mkW_len hv h1 h2 h3
  refine (fe0 (n := (B[v].length : Int)) ?_ ?_ ?_ ?_).symm
  · show ((sizesOf B)[((v : Int)).toNat]?).getD 0 = _
    rw [Int.toNat_natCast]; exact sizes_get hv
  · show ¬ ((v : Int) < 0 ∨ ((sizesOf B).length : Int) ≤ v)
    rw [sizesOf_len]; omega
  · rw [hl]; omega
  · rw [hl]; show ¬ (e.start < 0 ∨ _ < e.start); omega
theorem mkW_carry {B : List (List Sec)} {v : Nat} (hv : v < B.length) {e : Ext} (h1 : 0 ≤ e.start) (h2 : 1 ≤ e.count) (h3 : e.start + e.count ≤ B[v].length) : Carry B (mkW B v e) := by
  intro u k hk
  have hl := mkW_len hv h1 h2 h3
  unfold hits at hk
  rw [Bool.and_eq_true, decide_eq_true_iff, inExt_iff, hl] at hk
  simp only [mkW] at hk
  obtain ⟨q1, q2, q3⟩ := hk
  obtain rfl : v = u := by omega
  unfold pix mkW
  rw [List.getElem?_eq_getElem hv]
  simp only [Option.getD_some, Option.bind_some]
  rw [List.getElem?_take, if_pos (by omega), List.getElem?_drop]
  congr 1; omega
theorem mem_contUpto {B : List (List Sec)} {l : List (List Ext)} {x : Wr} : ∀ {n : Nat}, x ∈ contUpto B l n ↔ ∃ v, v < n ∧ ∃ (h : v < l.length), ∃ e ∈ l[v], x = mkW B v e
  | 0 => by simp [contUpto]
  | n + 1 => by
    rw [contUpto, List.mem_append, mem_contUpto (n := n)]
    constructor
    · rintro (⟨v, h1, h2, e, he, rfl⟩ | hx)
      · exact ⟨v, by omega, h2, e, he, rfl⟩
      · obtain ⟨e, he, rfl⟩ := List.mem_map.1 hx
        by_cases hn : n < l.length
        · rw [List.getElem?_eq_getElem hn] at he
          exact ⟨n, by omega, hn, e, he, rfl⟩
        · rw [List.getElem?_eq_none (by omega)] at he; cases he
    · rintro ⟨v, h1, h2, e, he, rfl⟩
      rcases Nat.lt_or_ge v n with h | h
      · exact .inl ⟨v, h, h2, e, he, rfl⟩
      · obtain rfl : v = n := by omega
        rw [List.getElem?_eq_getElem h2]
        exact .inr (List.mem_map.2 ⟨e, he, rfl⟩)
def Behind (y x : Wr) : Prop := ¬ (x.vol < y.vol ∨ x.vol = y.vol ∧ x.start ≤ y.start + y.data.length)
theorem wrsGo_some {sizes : List Int} : ∀ (l : List Wr) (y : Wr), (∀ x ∈ l, fitsErr sizes x = 0) → (y :: l).Pairwise Behind → wrsGo sizes (some y) l = 0
  | [], y, _, _ => rfl
  | x :: r, y, hf, hp => by
    have h0 := hf x (List.mem_cons_self ..)
    obtain ⟨h1, h2⟩ := List.pairwise_cons.1 hp
    rw [wrsGo, if_neg (by omega), if_neg (h1 x (List.mem_cons_self ..))]
    exact wrsGo_some r x (fun z hz => hf z (List.mem_cons_of_mem _ hz)) h2
theorem wrsGo_ok {sizes : List Int} {l : List Wr} (hf : ∀ x ∈ l, fitsErr sizes x = 0) (hp : l.Pairwise Behind) : wrsGo sizes none l = 0 := by
  cases l with
  | nil => rfl
  | cons x r =>
    have h0 := hf x (List.mem_cons_self ..)
    rw [wrsGo, if_neg (by omega)]
    exact wrsGo_some r x (fun z hz => hf z (List.mem_cons_of_mem _ hz)) hp
theorem contUpto_behind {B : List (List Sec)} {l : List (List Ext)} (h : InIm B l) : ∀ n, (contUpto B l n).Pairwise Behind
  | 0 => List.Pairwise.nil
  | n + 1 => by
    rw [contUpto]
    refine List.pairwise_append.2 ⟨contUpto_behind h n, ?_, fun a ha b hb => ?_⟩
    · by_cases hn : n < l.length
      · have hn' : n < B.length := by rw [← h.len]; exact hn
        rw [List.getElem?_eq_getElem hn, Option.getD_some]
        refine List.pairwise_map.2 ((h.chain n hn).imp_of_mem ?_)
        intro a b ha hb hab
        obtain ⟨p1, p2, p3⟩ := h.pos n hn' hn a ha
        have hl := mkW_len hn' p1 p2 p3
        unfold Behind
        rw [hl]
        show ¬ ((n : Int) < n ∨ (n : Int) = n ∧ b.start ≤ a.start + (a.count.toNat : Int))
        omega
      · rw [List.getElem?_eq_none (by omega)]; exact List.Pairwise.nil
    · obtain ⟨v, hv, _, e, _, rfl⟩ := mem_contUpto.1 ha
      obtain ⟨e', _, rfl⟩ := List.mem_map.1 hb
      unfold Behind
      show ¬ ((n : Int) < v ∨ (n : Int) = v ∧ _)
      omega
theorem contents_fits {B : List (List Sec)} {l : List (List Ext)} (h : InIm B l) : ∀ x ∈ contents B l, fitsErr (sizesOf B) x = 0 ∧ Carry B x := by
  intro x hx
  obtain ⟨v, hv, hv', e, he, rfl⟩ := mem_contUpto.1 hx
  obtain ⟨p1, p2, p3⟩ := h.pos v (by rw [← h.len]; exact hv') hv' e he
  exact ⟨mkW_fits _ p1 p2 p3, mkW_carry _ p1 p2 p3⟩
theorem contents_covers {B : List (List Sec)} {l : List (List Ext)} (h : InIm B l) {v k : Nat} (hv : v < l.length) : covers (contents B l) v k = true ↔ ∃ e ∈ l[v], inExt e k = true := by
  unfold covers
  rw [List.any_eq_true]
  constructor
  · rintro ⟨x, hx, hh⟩
    obtain ⟨u, hu, hu', e, he, rfl⟩ := mem_contUpto.1 hx
    obtain ⟨p1, p2, p3⟩ := h.pos u (by rw [← h.len]; exact hu') hu' e he
    have hl := mkW_len (by rw [← h.len]; exact hu') p1 p2 p3
    unfold hits at hh
    rw [Bool.and_eq_true, decide_eq_true_iff, inExt_iff, hl] at hh
    simp only [mkW] at hh
    obtain rfl : u = v := by omega
    exact ⟨e, he, inExt_iff.2 (by omega)⟩
  · rintro ⟨e, he, hi⟩
    obtain ⟨p1, p2, p3⟩ := h.pos v (by rw [← h.len]; exact hv) hv e he
    have hl := mkW_len (by rw [← h.len]; exact hv) p1 p2 p3
    refine ⟨mkW B v e, mem_contUpto.2 ⟨v, hv, hv, e, he, rfl⟩, ?_⟩
    unfold hits
    rw [Bool.and_eq_true, decide_eq_true_iff, inExt_iff, hl]
    have := inExt_iff.1 hi
    simp only [mkW]
    exact ⟨trivial, by omega⟩
end Go.Proofs.YtiolpldihoghiaaDoor

namespace Go.Proofs.YtiolpldihoghiaaDoor
open Go.RowKit
set_option linter.unusedVariables false
/-! ### Marks -/
structure Marks (im : List (List Sec)) (D : List Bm) (g : Nat → Nat → Bool) : Prop where
  len : D.length = im.length
  ok : ∀ v (h : v < D.length) (h' : v < im.length), D[v].err = 0 ∧ D[v].size = im[v].length ∧ ∀ k, k < im[v].length → bitOf D[v].words k = g v k
theorem setBm_fine {b : Bm} {e : Ext} (hb : b.err = 0) (hf : e.fits b.size) : setBm b e = (⟨b.size, wordsOf b.words.length fun j => bitOf b.words j || inExt e j⟩, 0) ∧ (setBm b e).1.err = 0 := by
  have e1 : setBm b e = (⟨b.size, wordsOf b.words.length fun j => bitOf b.words j || inExt e j⟩, 0) := by unfold setBm; rw [if_neg (by omega), if_neg (by simpa using hf)]
  refine ⟨e1, ?_⟩
  obtain ⟨h1, h2, h3, h4⟩ := Bm.err_zero hb
  rw [e1]
  refine Bm.err_pos ⟨h1, h2, by rw [wordsOf_length]; exact h3, fun i hi hl => ?_⟩
  simp only at hi hl ⊢
  rw [wordsOf_length] at hl
  rw [wordsOf_bit hl, h4 i hi hl, Bool.false_or]
  unfold inExt
  obtain ⟨f1, f2, f3, f4⟩ := hf
  rw [decide_eq_false_iff_not]; omega
theorem newBm_fine {n : Int} (h : 0 ≤ n ∧ n ≤ 4096) : (newBm n).1.err = 0 ∧ (newBm n).1.size = n ∧ ∀ k : Nat, (k : Int) < n → bitOf (newBm n).1.words k = false := by
  unfold newBm
  rw [if_pos h]
  refine ⟨Bm.err_pos ⟨h.1, h.2, ?_, fun i hi hl => ?_⟩, rfl, fun k hk => ?_⟩
  · simp only [wordsOf_length]; omega
  · simp only [wordsOf_length] at hl ⊢; rw [wordsOf_bit hl]
  · simp only; rw [wordsOf_bit (by omega)]
theorem marks_clean {im : List (List Sec)} (hz : imErr im = 0) : Marks im (cleanBm (sizesOf im)) fun _ _ => false := by
  obtain ⟨z1, z2, z3⟩ := sizesErr_zero hz
  refine ⟨by rw [cleanBm, List.length_map, sizesOf_len], fun v h h' => ?_⟩
  have hs : v < (sizesOf im).length := by rw [sizesOf_len]; exact h'
  have e : (cleanBm (sizesOf im))[v] = (newBm (im[v].length : Int)).1 := by
    simp only [cleanBm, List.getElem_map, sizesOf_at h']
  have hb := z3 _ (List.getElem_mem hs)
  rw [sizesOf_at h'] at hb
  obtain ⟨q1, q2, q3⟩ := newBm_fine (n := (im[v].length : Int)) (by omega)
  rw [e]
  exact ⟨q1, q2, fun k hk => q3 k (by omega)⟩
theorem marks_step {im : List (List Sec)} {D : List Bm} {g : Nat → Nat → Bool} {x : Wr} (h : Marks im D g) (hf : ¬ fitsErr (sizesOf im) x ≠ 0) : Marks im (markW D x) fun v k => g v k || hits x v k := by
  obtain ⟨h1, h2, hv, h3⟩ := fits_at_vol hf
  have hvD : x.vol.toNat < D.length := by rw [h.len]; exact hv
  refine ⟨(markW_len D x).trans h.len, fun v hl h' => ?_⟩
  have hlD : v < D.length := by rw [h.len]; exact h'
  obtain ⟨q1, q2, q3⟩ := h.ok v hlD h'
  simp only [markW_at hvD, List.getElem_set]
  by_cases hc : x.vol.toNat = v
  · subst hc
    rw [if_pos rfl]
    have hfit : Ext.fits ⟨x.start, x.data.length⟩ D[x.vol.toNat].size := ⟨h2, by simp, by rw [q2]; simp only; omega, by rw [q2]; simp only; omega⟩
    obtain ⟨e1, e2⟩ := setBm_fine q1 hfit
    refine ⟨e2, by rw [e1]; exact q2, fun k hk => ?_⟩
    obtain ⟨w1, w2, w3, w4⟩ := Bm.err_zero q1
    rw [e1]
    simp only
    rw [wordsOf_bit (by omega), q3 k hk]
    unfold hits
    rw [decide_eq_true (by omega : x.vol = (x.vol.toNat : Int)), Bool.true_and]
  · rw [if_neg hc]
    refine ⟨q1, q2, fun k hk => ?_⟩
    rw [q3 k hk]
    unfold hits
    rw [decide_eq_false (by omega : ¬ x.vol = (v : Int)), Bool.false_and, Bool.or_false]
theorem marks_all {im : List (List Sec)} : ∀ (l : List Wr) (D : List Bm) (g : Nat → Nat → Bool), Marks im D g → (∀ x ∈ l, fitsErr (sizesOf im) x = 0) → Marks im (markAll D l) fun v k => g v k || covers l v k
  | [], D, g, h, _ => ⟨h.len, fun v q1 q2 => by obtain ⟨a, b, c⟩ := h.ok v q1 q2; exact ⟨a, b, fun k hk => by rw [show covers [] v k = false from rfl, Bool.or_false]; exact c k hk⟩⟩
  | x :: r, D, g, h, hf => by
    have h0 := hf x (List.mem_cons_self ..)
    have := marks_all r _ _ (marks_step h (x := x) (by omega)) fun y hy => hf y (List.mem_cons_of_mem _ hy)
    refine ⟨this.len, fun v q1 q2 => ?_⟩
    obtain ⟨a, b, c⟩ := this.ok v q1 q2
    exact ⟨a, b, fun k hk => by rw [covers_cons, ← Bool.or_assoc]; exact c k hk⟩
/-- The marks of a site that has written to a clean image. -/
theorem marks_of {im : List (List Sec)} (hz : imErr im = 0) {l : List Wr} (hf : ∀ x ∈ l, fitsErr (sizesOf im) x = 0) : Marks im (markAll (cleanBm (sizesOf im)) l) (covers l) := by
  have := marks_all l _ _ (marks_clean hz) hf
  refine ⟨this.len, fun v q1 q2 => ?_⟩
  obtain ⟨a, b, c⟩ := this.ok v q1 q2
  exact ⟨a, b, fun k hk => by rw [c k hk, Bool.false_or]⟩
theorem bmsErr_ok : ∀ {l : List Bm} {ns : List Int}, (∀ i (h : i < l.length) (h' : i < ns.length), l[i].err = 0 ∧ l[i].size = ns[i]) → bmsErr l ns = 0
  | [], _, _ => by cases ‹List Int› <;> rfl
  | b :: bs, [], _ => rfl
  | b :: bs, n :: ns, h => by
    obtain ⟨h1, h2⟩ := h 0 (by simp) (by simp)
    simp only [List.getElem_cons_zero] at h1 h2
    rw [bmsErr, if_neg (by omega), if_neg (by omega)]
    exact bmsErr_ok fun i q1 q2 => h (i + 1) (by simpa using q1) (by simpa using q2)
theorem Marks.err {im X : List (List Sec)} {D : List Bm} {g : Nat → Nat → Bool} (h : Marks im D g) (hs : sizesOf X = sizesOf im) : bmsErr D (sizesOf X) = 0 := by
  rw [hs]
  refine bmsErr_ok fun i q1 q2 => ?_
  rw [sizesOf_len] at q2
  obtain ⟨a, b, _⟩ := h.ok i q1 q2
  exact ⟨a, by rw [b, sizesOf_at q2]⟩
/-- A point whose marks are g's. -/
structure Site (im : List (List Sec)) (p : Pt) (g : Nat → Nat → Bool) : Prop where
  site : 0 ≤ p.site ∧ p.site ≤ 1073741824
  lin : linOk p.lin = true
  marks : Marks im p.dirty g
  sizes : sizesOf p.im = sizesOf im
  base : ∀ v k, g v k = false → pix p.im v k = pix im v k
theorem Site.err {im : List (List Sec)} {p : Pt} {g : Nat → Nat → Bool} (hz : imErr im = 0) (h : Site im p g) : ptErr p = 0 := by
  have hl : p.im.length = im.length := by rw [← sizesOf_len p.im, h.sizes, sizesOf_len]
  unfold ptErr
  rw [if_neg (by have := h.site; omega), if_neg (by rw [h.lin]; simp), if_neg (by unfold imErr at hz ⊢; rw [h.sizes]; omega), if_neg (by rw [h.marks.len, hl]; simp), h.marks.err h.sizes]
/-- What Between finds. -/
theorem betw_in {im : List (List Sec)} {p q : Pt} {g h : Nat → Nat → Bool} (hz : imErr im = 0) (hp : Site im p g) (hq : Site im q h) :
    betwSp p q = (betw p q, 0) ∧ InIm q.im (betw p q) ∧ ∀ v (hv : v < (betw p q).length) (hv' : v < im.length), ∀ k, k < im[v].length → ((∃ e ∈ (betw p q)[v], inExt e k = true) ↔ (g v k || h v k) = true) := by
  have hl : q.im.length = im.length := by rw [← sizesOf_len q.im, hq.sizes, sizesOf_len]
  have hbl : (betw p q).length = im.length := by unfold betw; rw [List.length_zipWith, hp.marks.len, hq.marks.len, Nat.min_self]
  have key : ∀ v (hv : v < (betw p q).length) (hv' : v < im.length), Canon im[v].length (fun k => g v k || h v k) (betw p q)[v] := fun v hv hv' => by
    have d1 : v < p.dirty.length := by rw [hp.marks.len]; exact hv'
    have d2 : v < q.dirty.length := by rw [hq.marks.len]; exact hv'
    obtain ⟨a1, a2, a3⟩ := hp.marks.ok v d1 hv'
    obtain ⟨b1, b2, b3⟩ := hq.marks.ok v d2 hv'
    have e : (betw p q)[v] = extsUpto (fun k => g v k || h v k) im[v].length := by
      have e0 : (betw p q)[v] = orExts p.dirty[v] q.dirty[v] := by simp only [betw, List.getElem_zipWith]
      rw [e0, orExts_eq a1 b1 (by rw [a2, b2]), a2, Int.toNat_natCast]
      exact extsUpto_congr _ fun k hk => by rw [a3 k hk, b3 k hk]
    rw [e]; exact canon_upto _ _
  refine ⟨?_, ⟨by rw [hbl, hl], fun v hv hv' e he => ?_, fun v hv => ?_⟩, fun v hv hv' k hk => ?_⟩
  · unfold betwSp
    rw [if_neg (by have := hp.err hz; omega), if_neg (by have := hq.err hz; omega), if_neg (by rw [hp.sizes, hq.sizes]; simp)]
  · have h1 := (key v hv' (by omega)).pos e he
    have e2 : (q.im[v].length : Int) = im[v].length := by
      have h3 : (sizesOf q.im)[v]'(by rw [sizesOf_len]; exact hv) = (sizesOf im)[v]'(by rw [sizesOf_len]; omega) := by simp only [hq.sizes]
      rwa [sizesOf_at hv, sizesOf_at (by omega)] at h3
    omega
  · exact (key v hv (by omega)).chain
  · exact ((key v hv hv').cov k hk).symm
/-- The cycle of two sites, and what it makes of any image that is the current one where nothing is marked. -/
theorem cyc_sites {im : List (List Sec)} {p q : Pt} {g h : Nat → Nat → Bool} (hz : imErr im = 0) (hp : Site im p g) (hq : Site im q h) {number time n : Int} {pos : List Int}
    (hn : (anc p.lin q.lin).1 = n) (h0 : 0 ≤ n ∧ n < number ∧ lastTo q.lin ≤ number ∧ number ≤ 1073741824) (ht : 0 ≤ time ∧ time ≤ 1073741824) (hpos : pos.length ≤ 8 ∧ posErr pos = 0) :
    cycSp p q number time pos = (⟨n, number, time, pos, contents q.im (betw p q)⟩, 0) ∧ cycErr ⟨n, number, time, pos, contents q.im (betw p q)⟩ (sizesOf im) = 0 ∧
      ∀ X, sizesOf X = sizesOf im → (∀ v k, (g v k || h v k) = false → pix X v k = pix q.im v k) → applySp X (contents q.im (betw p q)) = (q.im, 0, 0) := by
  obtain ⟨e1, e2, e3⟩ := betw_in hz hp hq
  have hzq : sizesErr (sizesOf q.im) = 0 := by rw [hq.sizes]; exact hz
  have hfit := contents_fits e2
  have hw : wrsErr (contents q.im (betw p q)) (sizesOf q.im) = 0 := by
    unfold wrsErr
    rw [if_neg (by omega)]
    exact wrsGo_ok (fun x hx => (hfit x hx).1) (contUpto_behind e2 _)
  have hc : cycErr ⟨n, number, time, pos, contents q.im (betw p q)⟩ (sizesOf q.im) = 0 := by
    unfold cycErr
    rw [if_neg (by omega), if_neg (by simp only; omega), if_neg (by simp only; omega), if_neg (by simp only; omega), if_neg (by simp only; omega)]
    exact hw
  refine ⟨?_, by rw [← hq.sizes]; exact hc, fun X hX hout => ?_⟩
  · unfold cycSp
    rw [e1]
    simp only [hn]
    rw [if_neg (by simp), if_neg (by omega), if_neg (by omega)]
  · have hzX : imErr X = 0 := by unfold imErr; rw [hX]; exact hz
    have hXq : sizesOf X = sizesOf q.im := hX.trans hq.sizes.symm
    have hfX : ∀ x ∈ contents q.im (betw p q), fitsErr (sizesOf X) x = 0 := fun x hx => by rw [hXq]; exact (hfit x hx).1
    obtain ⟨f1, f2⟩ := applySp_fit hzX hfX
    rw [f1]
    have : putAll X (contents q.im (betw p q)) = q.im := by
      refine im_ext (f2.trans hXq) fun v k => ?_
      rw [pix_carry _ X rfl hfX (fun x hx => (hfit x hx).2) v k]
      split
      · rfl
      · rename_i hnc
        have hl : q.im.length = im.length := by rw [← sizesOf_len q.im, hq.sizes, sizesOf_len]
        have hlX : X.length = im.length := by rw [← sizesOf_len X, hX, sizesOf_len]
        by_cases hv : v < im.length
        · have hvl : v < (betw p q).length := by rw [e2.len, hl]; exact hv
          by_cases hk : k < im[v].length
          · refine hout v k ?_
            rw [contents_covers e2 hvl, e3 v hvl hv k hk] at hnc
            simpa using hnc
          · have hs1 : (q.im[v]'(by omega)).length = im[v].length := by
              have h3 : (sizesOf q.im)[v]'(by rw [sizesOf_len]; omega) = (sizesOf im)[v]'(by rw [sizesOf_len]; omega) := by simp only [hq.sizes]
              rw [sizesOf_at (by omega), sizesOf_at (by omega)] at h3; omega
            have hs2 : (X[v]'(by omega)).length = im[v].length := by
              have h3 : (sizesOf X)[v]'(by rw [sizesOf_len]; omega) = (sizesOf im)[v]'(by rw [sizesOf_len]; omega) := by simp only [hX]
              rw [sizesOf_at (by omega), sizesOf_at (by omega)] at h3; omega
            unfold pix
            rw [List.getElem?_eq_getElem (by omega : v < X.length), List.getElem?_eq_getElem (by omega : v < q.im.length), Option.bind_some, Option.bind_some, List.getElem?_eq_none (by omega), List.getElem?_eq_none (by omega)]
        · unfold pix
          rw [List.getElem?_eq_none (by omega : X.length ≤ v), List.getElem?_eq_none (by omega : q.im.length ≤ v)]
    rw [this]
/-- The site of a point. -/
theorem site_of {im : List (List Sec)} (hz : imErr im = 0) {l : List Wr} (hf : ∀ x ∈ l, fitsErr (sizesOf im) x = 0) {s : Int} {lin : List Span} (hs : 0 ≤ s ∧ s ≤ 1073741824) (hl : linOk lin = true) :
    Site im ⟨s, lin, markAll (cleanBm (sizesOf im)) l, (applySp im l).1⟩ (covers l) := by
  obtain ⟨e1, e2⟩ := applySp_fit hz hf
  refine ⟨hs, hl, marks_of hz hf, by rw [e1]; exact e2, fun v k hk => ?_⟩
  rw [e1]
  exact pix_putAll l im rfl hf v k hk
end Go.Proofs.YtiolpldihoghiaaDoor

namespace Go.Proofs.YtiolpldihoghiaaDoor
open Go.RowKit
set_option linter.unusedVariables false
set_option linter.unusedSimpArgs false
set_option maxHeartbeats 8000000
theorem ca_Rs2 {k : FuncId} {vs : List Value} {w1 : World} {v : Value} (h : Ret Tryd.prog k vs w1 (fun u _ => u = v) := by first | exact rFitsIm_any _ _ _ _ _ _ _ _ (by assumption) (by assumption) (by omega) (by omega) (H.fact _ mem_auto) | exact rSizes_any _ _ _ _ _ (H.fact _ mem_auto)) : Ret Tryd.prog k vs w1 (fun u _ => u = v) := h
def smallWs (l : List Wr) : Prop := (∀ x ∈ l, x.data.length ≤ 20) ∧ l.length ≤ 12
instance (l : List Wr) : Decidable (smallWs l) := inferInstanceAs (Decidable (_ ∧ _))
theorem small_any (M : Nat → Prop) (l : List Wr) (A : Option Addr) (c : Nat) (w : World) (hF : Stab w M (Row kWr 3 A l)) :
    Ret Tryd.prog 20 [.slice A l.length c] w fun v _ => v = .bool (decide (smallWs l)) := by
  have hll := hF.now.len
  refine enter (M := M) (F := [Row kWr 3 A l]) Tryd.func20 rfl rfl rfl (by simpa using hF) fun H => ?_
  repeat' (first | (apply l_rd; exact rd_go; rfl) | (apply q_rd; exact rd_go; rfl) | refine stp ?_ | refine bk_o rfl ?_ | refine c_true ⟨rfl, rfl⟩ ?_ | refine c_false ⟨rfl, rfl⟩ ?_ | (apply l_rdg; rfl; rfl; rfl; exact rd_go; rfl) | refine l_skip rfl rfl rfl rfl ?_ | (apply q_rdg; rfl; rfl; rfl; exact rd_go; rfl) | refine q_skip rfl rfl rfl rfl ?_ | refine c_draw H (by kernel_rfl) ?_ | (refine q_end ?_; clear H; intro _ H) | ((first | refine l_st (z_box H ?_) | refine l_st (s_alloc H rfl ?_)); clear H; intro _ _ _ H) | (refine l_st (t_build0 H rfl ?_); clear H; intro _ _ _ _ H) | (refine l_st (z_sto H ?_); clear H; intro _ H) | ((first | refine c_cond ⟨rfl, rfl⟩ ?_ ?_ | refine c_ncond ⟨rfl, rfl⟩ ?_ ?_ | refine l_split rfl rfl ?_ ?_ | refine q_split rfl rfl ?_ ?_ | refine l_nsplit rfl rfl ?_ ?_ | refine q_nsplit rfl rfl ?_ ?_) <;> intro _ <;> try (exfalso; omega)) | (refine l_st (k_call1 evs_auto H ca_Rs2 rfl ?_); clear H; intro _ _ H) | (refine l_st (k_callg1 evs_auto rfl rfl rfl H ca_Rs2 rfl ?_); clear H; intro _ _ H) | refine kq_call1 evs_auto H (fun _ H => ca_Rs2) rfl ?_ | refine kq_callg1 evs_auto rfl rfl rfl H (fun _ H => ca_Rs2) rfl ?_)
  refine c_loopk [3] [0] (fun n vs w' => ∃ i : Nat, vs = [.int .i64 i] ∧ i ≤ l.length ∧ n = l.length - i ∧ (∀ x ∈ l.take i, x.data.length ≤ 20) ∧ Hp w M w' [] [] [Row kWr 3 A l]) _ [_] rfl ⟨0, rfl, Nat.zero_le _, rfl, fun x hx => (by cases hx), H⟩ ?_
  clear H
  rintro n _ E0 w2 ⟨i, rfl, hi, rfl, hs, H⟩
  by_cases hi' : i < l.length
  · obtain ⟨A1, c1, _, _, _, _, H1⟩ := H.openWr (A := A) (xs := l) (i := i) mem_auto hi'
    clear H; have H := H1; clear H1
    have hdl := (H.fact (Row kSec 8 A1 l[i].data) mem_auto).now.len
    repeat' (first | (apply l_rd; exact rd_go; rfl) | (apply q_rd; exact rd_go; rfl) | refine stp ?_ | refine bk_o rfl ?_ | refine c_true ⟨rfl, rfl⟩ ?_ | refine c_false ⟨rfl, rfl⟩ ?_ | (apply l_rdg; rfl; rfl; rfl; exact rd_go; rfl) | refine l_skip rfl rfl rfl rfl ?_ | (apply q_rdg; rfl; rfl; rfl; exact rd_go; rfl) | refine q_skip rfl rfl rfl rfl ?_ | refine c_draw H (by kernel_rfl) ?_ | (refine q_end ?_; clear H; intro _ H) | ((first | refine l_st (z_box H ?_) | refine l_st (s_alloc H rfl ?_)); clear H; intro _ _ _ H) | (refine l_st (t_build0 H rfl ?_); clear H; intro _ _ _ _ H) | (refine l_st (z_sto H ?_); clear H; intro _ H) | ((first | refine c_cond ⟨rfl, rfl⟩ ?_ ?_ | refine c_ncond ⟨rfl, rfl⟩ ?_ ?_ | refine l_split rfl rfl ?_ ?_ | refine q_split rfl rfl ?_ ?_ | refine l_nsplit rfl rfl ?_ ?_ | refine q_nsplit rfl rfl ?_ ?_) <;> intro _ <;> try (exfalso; omega)) | (refine l_st (k_call1 evs_auto H ca_Rs2 rfl ?_); clear H; intro _ _ H) | (refine l_st (k_callg1 evs_auto rfl rfl rfl H ca_Rs2 rfl ?_); clear H; intro _ _ H) | refine kq_call1 evs_auto H (fun _ H => ca_Rs2) rfl ?_ | refine kq_callg1 evs_auto rfl rfl rfl H (fun _ H => ca_Rs2) rfl ?_)
    · refine ret1 H rfl rfl rfl (bv (decide_eq_false fun h => ?_).symm)
      have := h.1 l[i] (List.getElem_mem hi')
      omega
    · refine lk_n rfl (n' := l.length - (i + 1)) (by omega) ⟨i + 1, rfl, hi', rfl, fun x hx => ?_, H.weak (List.Sublist.refl _) (List.Sublist.refl _) (by simp)⟩
      rw [List.take_succ_eq_append_getElem hi'] at hx
      rcases List.mem_append.1 hx with h | h
      · exact hs x h
      · obtain rfl := List.mem_singleton.1 h; omega
  · repeat' (first | (apply l_rd; exact rd_go; rfl) | (apply q_rd; exact rd_go; rfl) | refine stp ?_ | refine bk_o rfl ?_ | refine c_true ⟨rfl, rfl⟩ ?_ | refine c_false ⟨rfl, rfl⟩ ?_ | (apply l_rdg; rfl; rfl; rfl; exact rd_go; rfl) | refine l_skip rfl rfl rfl rfl ?_ | (apply q_rdg; rfl; rfl; rfl; exact rd_go; rfl) | refine q_skip rfl rfl rfl rfl ?_ | refine c_draw H (by kernel_rfl) ?_ | (refine q_end ?_; clear H; intro _ H) | ((first | refine l_st (z_box H ?_) | refine l_st (s_alloc H rfl ?_)); clear H; intro _ _ _ H) | (refine l_st (t_build0 H rfl ?_); clear H; intro _ _ _ _ H) | (refine l_st (z_sto H ?_); clear H; intro _ H) | ((first | refine c_cond ⟨rfl, rfl⟩ ?_ ?_ | refine c_ncond ⟨rfl, rfl⟩ ?_ ?_ | refine l_split rfl rfl ?_ ?_ | refine q_split rfl rfl ?_ ?_ | refine l_nsplit rfl rfl ?_ ?_ | refine q_nsplit rfl rfl ?_ ?_) <;> intro _ <;> try (exfalso; omega)) | (refine l_st (k_call1 evs_auto H ca_Rs2 rfl ?_); clear H; intro _ _ H) | (refine l_st (k_callg1 evs_auto rfl rfl rfl H ca_Rs2 rfl ?_); clear H; intro _ _ H) | refine kq_call1 evs_auto H (fun _ H => ca_Rs2) rfl ?_ | refine kq_callg1 evs_auto rfl rfl rfl H (fun _ H => ca_Rs2) rfl ?_)
    have ht : l.take i = l := List.take_of_length_le (by omega)
    rw [ht] at hs
    refine ret1 H rfl rfl rfl (bv ?_)
    have : (smallWs l) ↔ ((l.length : Int) ≤ 12) := ⟨fun h => by have := h.2; omega, fun h => ⟨hs, by omega⟩⟩
    simp [this]
def fit8 (im : List (List Sec)) (l : List Wr) : List Wr := (l.take 8).filter fun x => decide (fitsErr (sizesOf im) x = 0)
theorem fit8_fits {im : List (List Sec)} {l : List Wr} : ∀ x ∈ fit8 im l, fitsErr (sizesOf im) x = 0 := fun x hx => by
  simpa using (List.mem_filter.1 hx).2
theorem fit8_len {im : List (List Sec)} {l : List Wr} : (fit8 im l).length ≤ 8 := by
  unfold fit8
  exact Nat.le_trans (List.length_filter_le _ _) (by rw [List.length_take]; omega)
theorem fitting_any (M : Nat → Prop) (im : List (List Sec)) (l : List Wr) (A B : Option Addr) (c d : Nat) (w : World) (hz : imErr im = 0) (hF : Stab w M (Row kVol 1 A im)) (hF' : Stab w M (Row kWr 3 B l)) :
    Ret Tryd.prog 60 [.slice A im.length c, .slice B l.length d] w (Fresh kWr 100 3 M w (fit8 im l)) := by
  have hll := hF'.now.len
  obtain ⟨z1, z2, z3⟩ := sizesErr_zero hz
  have hsl := sizesOf_len im
  refine enter (M := M) (F := [Row kVol 1 A im, Row kWr 3 B l]) Tryd.func60 rfl rfl rfl (by simpa using ⟨hF, hF'⟩) fun H => ?_
  repeat' (first | (apply l_rd; exact rd_go; rfl) | (apply q_rd; exact rd_go; rfl) | refine stp ?_ | refine bk_o rfl ?_ | refine c_true ⟨rfl, rfl⟩ ?_ | refine c_false ⟨rfl, rfl⟩ ?_ | (apply l_rdg; rfl; rfl; rfl; exact rd_go; rfl) | refine l_skip rfl rfl rfl rfl ?_ | (apply q_rdg; rfl; rfl; rfl; exact rd_go; rfl) | refine q_skip rfl rfl rfl rfl ?_ | (refine q_end ?_; clear H; intro _ H) | ((first | refine l_st (z_box H ?_) | refine l_st (s_alloc H rfl ?_)); clear H; intro _ _ _ H) | (refine l_st (t_build0 H rfl ?_); clear H; intro _ _ _ _ H) | (refine l_st (z_sto H ?_); clear H; intro _ H) | ((first | refine c_cond ⟨rfl, rfl⟩ ?_ ?_ | refine c_ncond ⟨rfl, rfl⟩ ?_ ?_ | refine l_split rfl rfl ?_ ?_ | refine q_split rfl rfl ?_ ?_ | refine l_nsplit rfl rfl ?_ ?_ | refine q_nsplit rfl rfl ?_ ?_) <;> intro _ <;> try (exfalso; omega)) | (refine l_st (k_call1 evs_auto H ca_Rs2 rfl ?_); clear H; intro _ _ H) | (refine l_st (k_callg1 evs_auto rfl rfl rfl H ca_Rs2 rfl ?_); clear H; intro _ _ H) | refine kq_call1 evs_auto H (fun _ H => ca_Rs2) rfl ?_ | refine kq_callg1 evs_auto rfl rfl rfl H (fun _ H => ca_Rs2) rfl ?_)
  have H1 := (H.own_nil 100 3).add (f := Chunks kWr 3 ([] : List Wr) []) (fun _ _ _ => Chunks.nil)
  refine c_loopk [6, 5] [0, 1] (fun n vs w' => ∃ (i : Nat) (A5 : Option Addr) (c5 : Nat) (xs : List Wr) (cs : List Value), vs = [.int .i64 i, .slice A5 xs.length c5] ∧ i ≤ l.length ∧ i ≤ 8 ∧ n = l.length - i ∧ xs = (l.take i).filter (fun x => decide (fitsErr (sizesOf im) x = 0)) ∧
      Hp w M w' [] [⟨.slice A5 xs.length c5, 100, 3, xs.length, cs⟩] [Chunks kWr 3 xs cs, Row kVol 1 A im, Row kWr 3 B l]) _ [_, _] rfl ⟨0, none, 0, [], [], rfl, Nat.zero_le _, Nat.zero_le _, rfl, rfl, H1⟩ ?_
  clear H H1
  rintro n _ E0 w2 ⟨i, A5, c5, xs, cs, rfl, hi, hi8, rfl, hxs, H⟩
  have hxl : xs.length ≤ i := by
    rw [hxs]; exact Nat.le_trans (List.length_filter_le _ _) (by rw [List.length_take]; omega)
  by_cases hi' : i < l.length ∧ i < 8
  · obtain ⟨hi1, hi2⟩ := hi'
    obtain ⟨A1, c1, r1, r2, q1, q2, H1⟩ := H.openWr (A := B) (xs := l) (i := i) mem_auto hi1
    clear H; have H := H1; clear H1
    have hdl := (H.fact (Row kSec 8 A1 l[i].data) mem_auto).now.len
    repeat' (first | (apply l_rd; exact rd_go; rfl) | (apply q_rd; exact rd_go; rfl) | refine stp ?_ | refine bk_o rfl ?_ | refine c_true ⟨rfl, rfl⟩ ?_ | refine c_false ⟨rfl, rfl⟩ ?_ | (apply l_rdg; rfl; rfl; rfl; exact rd_go; rfl) | refine l_skip rfl rfl rfl rfl ?_ | (apply q_rdg; rfl; rfl; rfl; exact rd_go; rfl) | refine q_skip rfl rfl rfl rfl ?_ | (refine q_end ?_; clear H; intro _ H) | ((first | refine l_st (z_box H ?_) | refine l_st (s_alloc H rfl ?_)); clear H; intro _ _ _ H) | (refine l_st (t_build0 H rfl ?_); clear H; intro _ _ _ _ H) | (refine l_st (z_sto H ?_); clear H; intro _ H) | ((first | refine c_cond ⟨rfl, rfl⟩ ?_ ?_ | refine c_ncond ⟨rfl, rfl⟩ ?_ ?_ | refine l_split rfl rfl ?_ ?_ | refine q_split rfl rfl ?_ ?_ | refine l_nsplit rfl rfl ?_ ?_ | refine q_nsplit rfl rfl ?_ ?_) <;> intro _ <;> try (exfalso; omega)) | (refine l_st (k_call1 evs_auto H ca_Rs2 rfl ?_); clear H; intro _ _ H) | (refine l_st (k_callg1 evs_auto rfl rfl rfl H ca_Rs2 rfl ?_); clear H; intro _ _ H) | refine kq_call1 evs_auto H (fun _ H => ca_Rs2) rfl ?_ | refine kq_callg1 evs_auto rfl rfl rfl H (fun _ H => ca_Rs2) rfl ?_)
    · have hg : (if imErr im ≠ 0 then imErr im else fitsErr (sizesOf im) l[i]) = 0 := by assumption
      rw [if_neg (by omega)] at hg
      have hk : Stab _ (Mu M [] [⟨.slice A5 xs.length c5, 100, 3, xs.length, cs⟩]) (fun w' => kWr w' l[i] [.int .i64 l[i].vol, .int .i64 l[i].start, .slice A1 l[i].data.length c1]) := (H.fact (Row kSec 8 A1 l[i].data) mem_auto).imp fun w' h => ⟨A1, c1, rfl, r1, r2, q1, q2, h⟩
      refine l_appc (j := 0) (dd := kWr) (q := .agg [_, _, _].toArray) (news := [_, _, _]) (xs := xs) l[i] H rfl rfl mem_auto ⟨rfl, rfl⟩ rfl rfl hk rfl rfl rfl (fun _ => ⟨rfl, rfl⟩) (by omega) rfl ?_
      clear H hk; intro A7 c7 w6 _ H
      repeat' (first | (apply l_rd; exact rd_go; rfl) | (apply q_rd; exact rd_go; rfl) | refine stp ?_ | refine bk_o rfl ?_ | refine c_true ⟨rfl, rfl⟩ ?_ | refine c_false ⟨rfl, rfl⟩ ?_ | (apply l_rdg; rfl; rfl; rfl; exact rd_go; rfl) | refine l_skip rfl rfl rfl rfl ?_ | (apply q_rdg; rfl; rfl; rfl; exact rd_go; rfl) | refine q_skip rfl rfl rfl rfl ?_ | (refine q_end ?_; clear H; intro _ H) | ((first | refine l_st (z_box H ?_) | refine l_st (s_alloc H rfl ?_)); clear H; intro _ _ _ H) | (refine l_st (t_build0 H rfl ?_); clear H; intro _ _ _ _ H) | (refine l_st (z_sto H ?_); clear H; intro _ H) | ((first | refine c_cond ⟨rfl, rfl⟩ ?_ ?_ | refine c_ncond ⟨rfl, rfl⟩ ?_ ?_ | refine l_split rfl rfl ?_ ?_ | refine q_split rfl rfl ?_ ?_ | refine l_nsplit rfl rfl ?_ ?_ | refine q_nsplit rfl rfl ?_ ?_) <;> intro _ <;> try (exfalso; omega)) | (refine l_st (k_call1 evs_auto H ca_Rs2 rfl ?_); clear H; intro _ _ H) | (refine l_st (k_callg1 evs_auto rfl rfl rfl H ca_Rs2 rfl ?_); clear H; intro _ _ H) | refine kq_call1 evs_auto H (fun _ H => ca_Rs2) rfl ?_ | refine kq_callg1 evs_auto rfl rfl rfl H (fun _ H => ca_Rs2) rfl ?_)
      refine lk_n rfl (n' := l.length - (i + 1)) (by omega) ⟨i + 1, A7, c7, xs ++ [l[i]], _, rfl, hi1, hi2, rfl, ?_, H.weak (List.nil_sublist _) (List.Sublist.refl _) (by simp)⟩
      rw [List.take_succ_eq_append_getElem hi1, List.filter_append, ← hxs]
      simp [hg]
    · have hg : ¬ (if imErr im ≠ 0 then imErr im else fitsErr (sizesOf im) l[i]) = 0 := by assumption
      rw [if_neg (by omega)] at hg
      refine lk_n rfl (n' := l.length - (i + 1)) (by omega) ⟨i + 1, A5, c5, xs, _, rfl, hi1, hi2, rfl, ?_, H.weak (List.nil_sublist _) (List.Sublist.refl _) (by simp)⟩
      rw [List.take_succ_eq_append_getElem hi1, List.filter_append, ← hxs]
      simp [hg]
  · repeat' (first | (apply l_rd; exact rd_go; rfl) | (apply q_rd; exact rd_go; rfl) | refine stp ?_ | refine bk_o rfl ?_ | refine c_true ⟨rfl, rfl⟩ ?_ | refine c_false ⟨rfl, rfl⟩ ?_ | (apply l_rdg; rfl; rfl; rfl; exact rd_go; rfl) | refine l_skip rfl rfl rfl rfl ?_ | (apply q_rdg; rfl; rfl; rfl; exact rd_go; rfl) | refine q_skip rfl rfl rfl rfl ?_ | (refine q_end ?_; clear H; intro _ H) | ((first | refine l_st (z_box H ?_) | refine l_st (s_alloc H rfl ?_)); clear H; intro _ _ _ H) | (refine l_st (t_build0 H rfl ?_); clear H; intro _ _ _ _ H) | (refine l_st (z_sto H ?_); clear H; intro _ H) | ((first | refine c_cond ⟨rfl, rfl⟩ ?_ ?_ | refine c_ncond ⟨rfl, rfl⟩ ?_ ?_ | refine l_split rfl rfl ?_ ?_ | refine q_split rfl rfl ?_ ?_ | refine l_nsplit rfl rfl ?_ ?_ | refine q_nsplit rfl rfl ?_ ?_) <;> intro _ <;> try (exfalso; omega)) | (refine l_st (k_call1 evs_auto H ca_Rs2 rfl ?_); clear H; intro _ _ H) | (refine l_st (k_callg1 evs_auto rfl rfl rfl H ca_Rs2 rfl ?_); clear H; intro _ _ H) | refine kq_call1 evs_auto H (fun _ H => ca_Rs2) rfl ?_ | refine kq_callg1 evs_auto rfl rfl rfl H (fun _ H => ca_Rs2) rfl ?_)
    all_goals
      have e : fit8 im l = xs := by
        rw [hxs, fit8]
        rcases Nat.lt_or_ge i 8 with h | h
        · rw [List.take_of_length_le (by omega : l.length ≤ i), List.take_of_length_le (by omega : l.length ≤ 8)]
        · rw [show i = 8 from by omega]
      rw [e]
      exact ret1 H rfl rfl rfl (H.fresh (j := 0) rfl mem_auto rfl)
theorem zIm_len (l : List Int) : (zIm l).length = l.length := by simp [zIm]
theorem rNewIm_any (M : Nat → Prop) (l : List Int) (A : Option Addr) (c : Nat) (w : World) (hM : ∀ b, M b → b < w.heap.size) (hF : Stab w M (Row (kInt .i64) 1 A l)) :
    Ret Tryd.prog 61 [.slice A l.length c] w fun v w' => ∃ vs, v = .tuple #[vs, .int .i64 (sizesErr l)] ∧ Fresh (kSl 8 kSec) 61 1 M w (newIm l) vs w' := by
  refine enter (M := M) (F := [Row (kInt .i64) 1 A l]) Tryd.func61 rfl rfl rfl (by simpa using hF) fun H => ?_
  repeat' (first | (apply l_rd; exact rd_go; rfl) | (apply q_rd; exact rd_go; rfl) | refine stp ?_ | refine bk_o rfl ?_ | refine c_true ⟨rfl, rfl⟩ ?_ | refine c_false ⟨rfl, rfl⟩ ?_ | (apply l_rdg; rfl; rfl; rfl; exact rd_go; rfl) | refine l_skip rfl rfl rfl rfl ?_ | (apply q_rdg; rfl; rfl; rfl; exact rd_go; rfl) | refine q_skip rfl rfl rfl rfl ?_ | (refine q_end ?_; clear H; intro _ H) | ((first | refine l_st (z_box H ?_) | refine l_st (s_alloc H rfl ?_)); clear H; intro _ _ _ H) | (refine l_st (t_build0 H rfl ?_); clear H; intro _ _ _ _ H) | (refine l_st (z_sto H ?_); clear H; intro _ H) | ((first | refine c_cond ⟨rfl, rfl⟩ ?_ ?_ | refine c_ncond ⟨rfl, rfl⟩ ?_ ?_ | refine l_split rfl rfl ?_ ?_ | refine q_split rfl rfl ?_ ?_ | refine l_nsplit rfl rfl ?_ ?_ | refine q_nsplit rfl rfl ?_ ?_) <;> intro _ <;> try (exfalso; omega)) | (refine l_st (k_call1 evs_auto H ca_Rs2 rfl ?_); clear H; intro _ _ H) | (refine l_st (k_callg1 evs_auto rfl rfl rfl H ca_Rs2 rfl ?_); clear H; intro _ _ H) | refine kq_call1 evs_auto H (fun _ H => ca_Rs2) rfl ?_ | refine kq_callg1 evs_auto rfl rfl rfl H (fun _ H => ca_Rs2) rfl ?_)
  · have hbad : sizesErr l ≠ 0 := by assumption
    refine ret2 (v := .slice _ _ _) (v' := .int _ _) H rfl rfl rfl rfl ⟨_, rfl, ?_⟩
    unfold newIm; rw [if_neg hbad]; exact H.fresh_nil
  have hz : sizesErr l = 0 := by omega
  obtain ⟨z1, z2, z3⟩ := sizesErr_zero hz
  have H1 := (H.own_nil 61 1).add (f := Chunks (kSl 8 kSec) 1 ([] : List (List Sec)) []) (fun _ _ _ => Chunks.nil)
  refine c_loopk [6, 5] [0] (fun n vs w' => ∃ (i : Nat) (A5 : Option Addr) (c5 : Nat) (xs : List (List Sec)) (cs : List Value), vs = [.int .i64 i, .slice A5 xs.length c5] ∧ i ≤ l.length ∧ n = l.length - i ∧ xs = zIm (l.take i) ∧
      Hp w M w' [] [⟨.slice A5 xs.length c5, 61, 1, xs.length, cs⟩] [Chunks (kSl 8 kSec) 1 xs cs, Row (kInt .i64) 1 A l]) _ [_] rfl ⟨0, none, 0, [], [], rfl, Nat.zero_le _, rfl, rfl, H1⟩ ?_
  clear H H1
  rintro n _ E0 w2 ⟨i, A5, c5, xs, cs, rfl, hi, rfl, hxs, H⟩
  have hxl : xs.length = i := by rw [hxs, zIm_len, List.length_take]; omega
  by_cases hi' : i < l.length
  · have hn := z3 _ (List.getElem_mem hi')
    repeat' (first | (apply l_rd; exact rd_go; rfl) | (apply q_rd; exact rd_go; rfl) | refine stp ?_ | refine bk_o rfl ?_ | refine c_true ⟨rfl, rfl⟩ ?_ | refine c_false ⟨rfl, rfl⟩ ?_ | (apply l_rdg; rfl; rfl; rfl; exact rd_go; rfl) | refine l_skip rfl rfl rfl rfl ?_ | (apply q_rdg; rfl; rfl; rfl; exact rd_go; rfl) | refine q_skip rfl rfl rfl rfl ?_ | (refine q_end ?_; clear H; intro _ H) | ((first | refine l_st (z_box H ?_) | refine l_st (s_alloc H rfl ?_)); clear H; intro _ _ _ H) | (refine l_st (t_build0 H rfl ?_); clear H; intro _ _ _ _ H) | (refine l_st (z_sto H ?_); clear H; intro _ H) | ((first | refine c_cond ⟨rfl, rfl⟩ ?_ ?_ | refine c_ncond ⟨rfl, rfl⟩ ?_ ?_ | refine l_split rfl rfl ?_ ?_ | refine q_split rfl rfl ?_ ?_ | refine l_nsplit rfl rfl ?_ ?_ | refine q_nsplit rfl rfl ?_ ?_) <;> intro _ <;> try (exfalso; omega)) | (refine l_st (k_call1 evs_auto H ca_Rs2 rfl ?_); clear H; intro _ _ H) | (refine l_st (k_callg1 evs_auto rfl rfl rfl H ca_Rs2 rfl ?_); clear H; intro _ _ H) | refine kq_call1 evs_auto H (fun _ H => ca_Rs2) rfl ?_ | refine kq_callg1 evs_auto rfl rfl rfl H (fun _ H => ca_Rs2) rfl ?_)
    refine l_st (t_make (n := (l[i]'hi').toNat) H ⟨rfl, rfl⟩ ⟨rfl, rfl⟩ (by omega) (by omega) rfl ?_)
    clear H; intro A7 c7 w7 _ H
    have hch : ∀ w', Chunks kSec 8 (zVol l[i]) (List.replicate ((l[i]'hi').toNat * 8) (Value.int .u8 0)) w' := fun w' => zVol_chunks _ w'
    obtain ⟨s1, s2, H1⟩ := (H.add (fun w' _ _ => hch w')).sealR (dd := kSec) (xs := zVol l[i]) (List.mem_cons_self ..) hM (by decide) (by simp [zVol]) (by simp [zVol]; omega)
    clear H; have H := H1.weak (F' := [Row kSec 8 A7 (zVol l[i]), Chunks (kSl 8 kSec) 1 xs cs, Row (kInt .i64) 1 A l]) (List.Sublist.refl _) (List.Sublist.refl _) (by simp); clear H1
    have hvl : (zVol l[i]).length = (l[i]'hi').toNat := by simp [zVol]
    repeat' (first | (apply l_rd; exact rd_go; rfl) | (apply q_rd; exact rd_go; rfl) | refine stp ?_ | refine bk_o rfl ?_ | refine c_true ⟨rfl, rfl⟩ ?_ | refine c_false ⟨rfl, rfl⟩ ?_ | (apply l_rdg; rfl; rfl; rfl; exact rd_go; rfl) | refine l_skip rfl rfl rfl rfl ?_ | (apply q_rdg; rfl; rfl; rfl; exact rd_go; rfl) | refine q_skip rfl rfl rfl rfl ?_ | (refine q_end ?_; clear H; intro _ H) | ((first | refine l_st (z_box H ?_) | refine l_st (s_alloc H rfl ?_)); clear H; intro _ _ _ H) | (refine l_st (t_build0 H rfl ?_); clear H; intro _ _ _ _ H) | (refine l_st (z_sto H ?_); clear H; intro _ H) | ((first | refine c_cond ⟨rfl, rfl⟩ ?_ ?_ | refine c_ncond ⟨rfl, rfl⟩ ?_ ?_ | refine l_split rfl rfl ?_ ?_ | refine q_split rfl rfl ?_ ?_ | refine l_nsplit rfl rfl ?_ ?_ | refine q_nsplit rfl rfl ?_ ?_) <;> intro _ <;> try (exfalso; omega)) | (refine l_st (k_call1 evs_auto H ca_Rs2 rfl ?_); clear H; intro _ _ H) | (refine l_st (k_callg1 evs_auto rfl rfl rfl H ca_Rs2 rfl ?_); clear H; intro _ _ H) | refine kq_call1 evs_auto H (fun _ H => ca_Rs2) rfl ?_ | refine kq_callg1 evs_auto rfl rfl rfl H (fun _ H => ca_Rs2) rfl ?_)
    refine l_apps (j := 0) (dd := kSl 8 kSec) (xs := xs) (zVol l[i]) H rfl rfl mem_auto ⟨rfl, rfl⟩ ((H.fact (Row kSec 8 A7 (zVol l[i])) mem_auto).imp fun w' h => ⟨A7, c7, by rw [hvl], s1, s2, h⟩) rfl (fun _ => ⟨rfl, rfl⟩) (by omega) rfl ?_
    clear H; intro A8 c8 w8 _ H
    repeat' (first | (apply l_rd; exact rd_go; rfl) | (apply q_rd; exact rd_go; rfl) | refine stp ?_ | refine bk_o rfl ?_ | refine c_true ⟨rfl, rfl⟩ ?_ | refine c_false ⟨rfl, rfl⟩ ?_ | (apply l_rdg; rfl; rfl; rfl; exact rd_go; rfl) | refine l_skip rfl rfl rfl rfl ?_ | (apply q_rdg; rfl; rfl; rfl; exact rd_go; rfl) | refine q_skip rfl rfl rfl rfl ?_ | (refine q_end ?_; clear H; intro _ H) | ((first | refine l_st (z_box H ?_) | refine l_st (s_alloc H rfl ?_)); clear H; intro _ _ _ H) | (refine l_st (t_build0 H rfl ?_); clear H; intro _ _ _ _ H) | (refine l_st (z_sto H ?_); clear H; intro _ H) | ((first | refine c_cond ⟨rfl, rfl⟩ ?_ ?_ | refine c_ncond ⟨rfl, rfl⟩ ?_ ?_ | refine l_split rfl rfl ?_ ?_ | refine q_split rfl rfl ?_ ?_ | refine l_nsplit rfl rfl ?_ ?_ | refine q_nsplit rfl rfl ?_ ?_) <;> intro _ <;> try (exfalso; omega)) | (refine l_st (k_call1 evs_auto H ca_Rs2 rfl ?_); clear H; intro _ _ H) | (refine l_st (k_callg1 evs_auto rfl rfl rfl H ca_Rs2 rfl ?_); clear H; intro _ _ H) | refine kq_call1 evs_auto H (fun _ H => ca_Rs2) rfl ?_ | refine kq_callg1 evs_auto rfl rfl rfl H (fun _ H => ca_Rs2) rfl ?_)
    refine lk_n rfl (n' := l.length - (i + 1)) (by omega) ⟨i + 1, A8, c8, xs ++ [zVol l[i]], _, rfl, hi', rfl, ?_, H.weak (List.Sublist.refl _) (List.Sublist.refl _) (by simp)⟩
    rw [hxs, List.take_succ_eq_append_getElem hi']; unfold zIm; rw [List.map_append]; rfl
  · repeat' (first | (apply l_rd; exact rd_go; rfl) | (apply q_rd; exact rd_go; rfl) | refine stp ?_ | refine bk_o rfl ?_ | refine c_true ⟨rfl, rfl⟩ ?_ | refine c_false ⟨rfl, rfl⟩ ?_ | (apply l_rdg; rfl; rfl; rfl; exact rd_go; rfl) | refine l_skip rfl rfl rfl rfl ?_ | (apply q_rdg; rfl; rfl; rfl; exact rd_go; rfl) | refine q_skip rfl rfl rfl rfl ?_ | (refine q_end ?_; clear H; intro _ H) | ((first | refine l_st (z_box H ?_) | refine l_st (s_alloc H rfl ?_)); clear H; intro _ _ _ H) | (refine l_st (t_build0 H rfl ?_); clear H; intro _ _ _ _ H) | (refine l_st (z_sto H ?_); clear H; intro _ H) | ((first | refine c_cond ⟨rfl, rfl⟩ ?_ ?_ | refine c_ncond ⟨rfl, rfl⟩ ?_ ?_ | refine l_split rfl rfl ?_ ?_ | refine q_split rfl rfl ?_ ?_ | refine l_nsplit rfl rfl ?_ ?_ | refine q_nsplit rfl rfl ?_ ?_) <;> intro _ <;> try (exfalso; omega)) | (refine l_st (k_call1 evs_auto H ca_Rs2 rfl ?_); clear H; intro _ _ H) | (refine l_st (k_callg1 evs_auto rfl rfl rfl H ca_Rs2 rfl ?_); clear H; intro _ _ H) | refine kq_call1 evs_auto H (fun _ H => ca_Rs2) rfl ?_ | refine kq_callg1 evs_auto rfl rfl rfl H (fun _ H => ca_Rs2) rfl ?_)
    have e : newIm l = xs := by unfold newIm; rw [if_pos hz, hxs, List.take_of_length_le (by omega)]
    refine ret2 (v := .slice _ _ _) (v' := .int _ _) H rfl rfl rfl rfl ⟨.slice A5 xs.length c5, by rw [hz], ?_⟩
    rw [e]; exact H.fresh (j := 0) rfl mem_auto rfl
end Go.Proofs.YtiolpldihoghiaaDoor

namespace Go.Proofs.YtiolpldihoghiaaDoor
open Go.RowKit
set_option linter.unusedVariables false
set_option linter.unusedSimpArgs false
set_option maxHeartbeats 4000000
theorem ca_Sw1 {k : FuncId} {vs : List Value} {w1 : World} {v : Value} (h : Ret Tryd.prog k vs w1 (fun u _ => u = v) := by first | exact sameSecs_any _ _ _ _ _ _ _ _ (H.fact _ mem_auto) (H.fact _ mem_auto)) : Ret Tryd.prog k vs w1 (fun u _ => u = v) := h
instance : DecidableEq Wr := fun a b => decidable_of_iff (a.vol = b.vol ∧ a.start = b.start ∧ a.data = b.data) ⟨fun ⟨h1, h2, h3⟩ => by cases a; cases b; simp at h1 h2 h3; simp [h1, h2, h3], fun h => by subst h; exact ⟨rfl, rfl, rfl⟩⟩
theorem Wr.eq_iff {a b : Wr} : a = b ↔ a.vol = b.vol ∧ a.start = b.start ∧ a.data = b.data := ⟨fun h => by subst h; exact ⟨rfl, rfl, rfl⟩, fun ⟨h1, h2, h3⟩ => by cases a; cases b; simp at h1 h2 h3; simp [h1, h2, h3]⟩
theorem sameSecs_any (M : Nat → Prop) (xs ys : List Sec) (A B : Option Addr) (c d : Nat) (w : World) (hF : Stab w M (Row kSec 8 A xs)) (hF' : Stab w M (Row kSec 8 B ys)) :
    Ret Tryd.prog 108 [.slice A xs.length c, .slice B ys.length d] w fun v _ => v = .bool (decide (xs = ys)) := by
  have hl := hF.now.len
  have hx := sec_ok hF
  have hy := sec_ok hF'
  refine enter (M := M) (F := [Row kSec 8 A xs, Row kSec 8 B ys]) Tryd.func108 rfl rfl rfl (by simpa using ⟨hF, hF'⟩) fun H => ?_
  repeat' (first | (apply l_rd; exact rd_go; rfl) | (apply q_rd; exact rd_go; rfl) | refine stp ?_ | refine bk_o rfl ?_ | refine c_true ⟨rfl, rfl⟩ ?_ | refine c_false ⟨rfl, rfl⟩ ?_ | (apply l_rdg; rfl; rfl; rfl; exact rd_go; rfl) | refine l_skip rfl rfl rfl rfl ?_ | (apply q_rdg; rfl; rfl; rfl; exact rd_go; rfl) | refine q_skip rfl rfl rfl rfl ?_ | refine c_draw H (by kernel_rfl) ?_ | (refine q_end ?_; clear H; intro _ H) | ((first | refine l_st (z_box H ?_) | refine l_st (s_alloc H rfl ?_)); clear H; intro _ _ _ H) | (refine l_st (t_build0 H rfl ?_); clear H; intro _ _ _ _ H) | (refine l_st (z_sto H ?_); clear H; intro _ H) | ((first | refine c_cond ⟨rfl, rfl⟩ ?_ ?_ | refine c_ncond ⟨rfl, rfl⟩ ?_ ?_ | refine l_split rfl rfl ?_ ?_ | refine q_split rfl rfl ?_ ?_ | refine l_nsplit rfl rfl ?_ ?_ | refine q_nsplit rfl rfl ?_ ?_) <;> intro _ <;> try (exfalso; omega)) | (refine l_st (k_call1 evs_auto H ca_Sw1 rfl ?_); clear H; intro _ _ H) | (refine l_st (k_callg1 evs_auto rfl rfl rfl H ca_Sw1 rfl ?_); clear H; intro _ _ H) | refine kq_call1 evs_auto H (fun _ H => ca_Sw1) rfl ?_ | refine kq_callg1 evs_auto rfl rfl rfl H (fun _ H => ca_Sw1) rfl ?_)
  · refine ret1 H rfl rfl rfl ?_
    refine bv ?_
    have : ¬ xs = ys := fun e => by subst e; contradiction
    simp [this]
  have hlen : xs.length = ys.length := by omega
  refine c_loopk [5] [0, 1] (fun n vs w' => ∃ i : Nat, vs = [.int .i64 i] ∧ i ≤ xs.length ∧ n = xs.length - i ∧ xs.take i = ys.take i ∧ Hp w M w' [] [] _) _ [_, _] rfl ⟨0, rfl, Nat.zero_le _, rfl, rfl, H⟩ ?_
  clear H
  rintro n _ E0 w2 ⟨i, rfl, hi, rfl, ht, H⟩
  by_cases hi' : i < xs.length
  · have hi2 : i < ys.length := by omega
    repeat' (first | (apply l_rd; exact rd_go; rfl) | (apply q_rd; exact rd_go; rfl) | refine stp ?_ | refine bk_o rfl ?_ | refine c_true ⟨rfl, rfl⟩ ?_ | refine c_false ⟨rfl, rfl⟩ ?_ | (apply l_rdg; rfl; rfl; rfl; exact rd_go; rfl) | refine l_skip rfl rfl rfl rfl ?_ | (apply q_rdg; rfl; rfl; rfl; exact rd_go; rfl) | refine q_skip rfl rfl rfl rfl ?_ | refine c_draw H (by kernel_rfl) ?_ | (refine q_end ?_; clear H; intro _ H) | ((first | refine l_st (z_box H ?_) | refine l_st (s_alloc H rfl ?_)); clear H; intro _ _ _ H) | (refine l_st (t_build0 H rfl ?_); clear H; intro _ _ _ _ H) | (refine l_st (z_sto H ?_); clear H; intro _ H) | ((first | refine c_cond ⟨rfl, rfl⟩ ?_ ?_ | refine c_ncond ⟨rfl, rfl⟩ ?_ ?_ | refine l_split rfl rfl ?_ ?_ | refine q_split rfl rfl ?_ ?_ | refine l_nsplit rfl rfl ?_ ?_ | refine q_nsplit rfl rfl ?_ ?_) <;> intro _ <;> try (exfalso; omega)) | (refine l_st (k_call1 evs_auto H ca_Sw1 rfl ?_); clear H; intro _ _ H) | (refine l_st (k_callg1 evs_auto rfl rfl rfl H ca_Sw1 rfl ?_); clear H; intro _ _ H) | refine kq_call1 evs_auto H (fun _ H => ca_Sw1) rfl ?_ | refine kq_callg1 evs_auto rfl rfl rfl H (fun _ H => ca_Sw1) rfl ?_)
    apply q_rd
    exact rd_ne_sec (s := xs[i]) (r := ys[i]) ⟨rfl, rfl⟩ ⟨rfl, rfl⟩ (hx _ (List.getElem_mem hi')).1 (hy _ (List.getElem_mem hi2)).1
    rfl
    repeat' (first | (apply l_rd; exact rd_go; rfl) | (apply q_rd; exact rd_go; rfl) | refine stp ?_ | refine bk_o rfl ?_ | refine c_true ⟨rfl, rfl⟩ ?_ | refine c_false ⟨rfl, rfl⟩ ?_ | (apply l_rdg; rfl; rfl; rfl; exact rd_go; rfl) | refine l_skip rfl rfl rfl rfl ?_ | (apply q_rdg; rfl; rfl; rfl; exact rd_go; rfl) | refine q_skip rfl rfl rfl rfl ?_ | refine c_draw H (by kernel_rfl) ?_ | (refine q_end ?_; clear H; intro _ H) | ((first | refine l_st (z_box H ?_) | refine l_st (s_alloc H rfl ?_)); clear H; intro _ _ _ H) | (refine l_st (t_build0 H rfl ?_); clear H; intro _ _ _ _ H) | (refine l_st (z_sto H ?_); clear H; intro _ H) | ((first | refine c_cond ⟨rfl, rfl⟩ ?_ ?_ | refine c_ncond ⟨rfl, rfl⟩ ?_ ?_ | refine l_split rfl rfl ?_ ?_ | refine q_split rfl rfl ?_ ?_ | refine l_nsplit rfl rfl ?_ ?_ | refine q_nsplit rfl rfl ?_ ?_) <;> intro _ <;> try (exfalso; omega)) | (refine l_st (k_call1 evs_auto H ca_Sw1 rfl ?_); clear H; intro _ _ H) | (refine l_st (k_callg1 evs_auto rfl rfl rfl H ca_Sw1 rfl ?_); clear H; intro _ _ H) | refine kq_call1 evs_auto H (fun _ H => ca_Sw1) rfl ?_ | refine kq_callg1 evs_auto rfl rfl rfl H (fun _ H => ca_Sw1) rfl ?_)
    · refine ret1 H rfl rfl rfl ?_
      refine bv ?_
      have hne : xs[i] ≠ ys[i] := by assumption
      have : ¬ xs = ys := fun e => hne (by simp [e])
      simp [this]
    · have hxy : ¬ xs[i] ≠ ys[i] := by assumption
      exact lk_n rfl (n' := xs.length - (i + 1)) (by omega) ⟨i + 1, rfl, hi', rfl, take_step hi' hi2 ht (Classical.not_not.1 hxy), H⟩
  · repeat' (first | (apply l_rd; exact rd_go; rfl) | (apply q_rd; exact rd_go; rfl) | refine stp ?_ | refine bk_o rfl ?_ | refine c_true ⟨rfl, rfl⟩ ?_ | refine c_false ⟨rfl, rfl⟩ ?_ | (apply l_rdg; rfl; rfl; rfl; exact rd_go; rfl) | refine l_skip rfl rfl rfl rfl ?_ | (apply q_rdg; rfl; rfl; rfl; exact rd_go; rfl) | refine q_skip rfl rfl rfl rfl ?_ | refine c_draw H (by kernel_rfl) ?_ | (refine q_end ?_; clear H; intro _ H) | ((first | refine l_st (z_box H ?_) | refine l_st (s_alloc H rfl ?_)); clear H; intro _ _ _ H) | (refine l_st (t_build0 H rfl ?_); clear H; intro _ _ _ _ H) | (refine l_st (z_sto H ?_); clear H; intro _ H) | ((first | refine c_cond ⟨rfl, rfl⟩ ?_ ?_ | refine c_ncond ⟨rfl, rfl⟩ ?_ ?_ | refine l_split rfl rfl ?_ ?_ | refine q_split rfl rfl ?_ ?_ | refine l_nsplit rfl rfl ?_ ?_ | refine q_nsplit rfl rfl ?_ ?_) <;> intro _ <;> try (exfalso; omega)) | (refine l_st (k_call1 evs_auto H ca_Sw1 rfl ?_); clear H; intro _ _ H) | (refine l_st (k_callg1 evs_auto rfl rfl rfl H ca_Sw1 rfl ?_); clear H; intro _ _ H) | refine kq_call1 evs_auto H (fun _ H => ca_Sw1) rfl ?_ | refine kq_callg1 evs_auto rfl rfl rfl H (fun _ H => ca_Sw1) rfl ?_)
    have e : xs = ys := take_all hlen (by rw [show xs.length = i from by omega]; exact ht)
    refine ret1 H rfl rfl rfl ?_
    refine bv ?_
    simp [e]
theorem sameVol_any (M : Nat → Prop) (xs ys : List Sec) (A B : Option Addr) (c d : Nat) (w : World) (hF : Stab w M (Row kSec 8 A xs)) (hF' : Stab w M (Row kSec 8 B ys)) :
    Ret Tryd.prog 64 [.slice A xs.length c, .slice B ys.length d] w fun v _ => v = .bool (decide (xs = ys)) := by
  have hl := hF.now.len
  have hx := sec_ok hF
  have hy := sec_ok hF'
  refine enter (M := M) (F := [Row kSec 8 A xs, Row kSec 8 B ys]) Tryd.func64 rfl rfl rfl (by simpa using ⟨hF, hF'⟩) fun H => ?_
  repeat' (first | (apply l_rd; exact rd_go; rfl) | (apply q_rd; exact rd_go; rfl) | refine stp ?_ | refine bk_o rfl ?_ | refine c_true ⟨rfl, rfl⟩ ?_ | refine c_false ⟨rfl, rfl⟩ ?_ | (apply l_rdg; rfl; rfl; rfl; exact rd_go; rfl) | refine l_skip rfl rfl rfl rfl ?_ | (apply q_rdg; rfl; rfl; rfl; exact rd_go; rfl) | refine q_skip rfl rfl rfl rfl ?_ | refine c_draw H (by kernel_rfl) ?_ | (refine q_end ?_; clear H; intro _ H) | ((first | refine l_st (z_box H ?_) | refine l_st (s_alloc H rfl ?_)); clear H; intro _ _ _ H) | (refine l_st (t_build0 H rfl ?_); clear H; intro _ _ _ _ H) | (refine l_st (z_sto H ?_); clear H; intro _ H) | ((first | refine c_cond ⟨rfl, rfl⟩ ?_ ?_ | refine c_ncond ⟨rfl, rfl⟩ ?_ ?_ | refine l_split rfl rfl ?_ ?_ | refine q_split rfl rfl ?_ ?_ | refine l_nsplit rfl rfl ?_ ?_ | refine q_nsplit rfl rfl ?_ ?_) <;> intro _ <;> try (exfalso; omega)) | (refine l_st (k_call1 evs_auto H ca_Sw1 rfl ?_); clear H; intro _ _ H) | (refine l_st (k_callg1 evs_auto rfl rfl rfl H ca_Sw1 rfl ?_); clear H; intro _ _ H) | refine kq_call1 evs_auto H (fun _ H => ca_Sw1) rfl ?_ | refine kq_callg1 evs_auto rfl rfl rfl H (fun _ H => ca_Sw1) rfl ?_)
  · refine ret1 H rfl rfl rfl ?_
    refine bv ?_
    have : ¬ xs = ys := fun e => by subst e; contradiction
    simp [this]
  have hlen : xs.length = ys.length := by omega
  refine c_loopk [5] [0, 1] (fun n vs w' => ∃ i : Nat, vs = [.int .i64 i] ∧ i ≤ xs.length ∧ n = xs.length - i ∧ xs.take i = ys.take i ∧ Hp w M w' [] [] _) _ [_, _] rfl ⟨0, rfl, Nat.zero_le _, rfl, rfl, H⟩ ?_
  clear H
  rintro n _ E0 w2 ⟨i, rfl, hi, rfl, ht, H⟩
  by_cases hi' : i < xs.length
  · have hi2 : i < ys.length := by omega
    repeat' (first | (apply l_rd; exact rd_go; rfl) | (apply q_rd; exact rd_go; rfl) | refine stp ?_ | refine bk_o rfl ?_ | refine c_true ⟨rfl, rfl⟩ ?_ | refine c_false ⟨rfl, rfl⟩ ?_ | (apply l_rdg; rfl; rfl; rfl; exact rd_go; rfl) | refine l_skip rfl rfl rfl rfl ?_ | (apply q_rdg; rfl; rfl; rfl; exact rd_go; rfl) | refine q_skip rfl rfl rfl rfl ?_ | refine c_draw H (by kernel_rfl) ?_ | (refine q_end ?_; clear H; intro _ H) | ((first | refine l_st (z_box H ?_) | refine l_st (s_alloc H rfl ?_)); clear H; intro _ _ _ H) | (refine l_st (t_build0 H rfl ?_); clear H; intro _ _ _ _ H) | (refine l_st (z_sto H ?_); clear H; intro _ H) | ((first | refine c_cond ⟨rfl, rfl⟩ ?_ ?_ | refine c_ncond ⟨rfl, rfl⟩ ?_ ?_ | refine l_split rfl rfl ?_ ?_ | refine q_split rfl rfl ?_ ?_ | refine l_nsplit rfl rfl ?_ ?_ | refine q_nsplit rfl rfl ?_ ?_) <;> intro _ <;> try (exfalso; omega)) | (refine l_st (k_call1 evs_auto H ca_Sw1 rfl ?_); clear H; intro _ _ H) | (refine l_st (k_callg1 evs_auto rfl rfl rfl H ca_Sw1 rfl ?_); clear H; intro _ _ H) | refine kq_call1 evs_auto H (fun _ H => ca_Sw1) rfl ?_ | refine kq_callg1 evs_auto rfl rfl rfl H (fun _ H => ca_Sw1) rfl ?_)
    apply q_rd
    exact rd_ne_sec (s := xs[i]) (r := ys[i]) ⟨rfl, rfl⟩ ⟨rfl, rfl⟩ (hx _ (List.getElem_mem hi')).1 (hy _ (List.getElem_mem hi2)).1
    rfl
    repeat' (first | (apply l_rd; exact rd_go; rfl) | (apply q_rd; exact rd_go; rfl) | refine stp ?_ | refine bk_o rfl ?_ | refine c_true ⟨rfl, rfl⟩ ?_ | refine c_false ⟨rfl, rfl⟩ ?_ | (apply l_rdg; rfl; rfl; rfl; exact rd_go; rfl) | refine l_skip rfl rfl rfl rfl ?_ | (apply q_rdg; rfl; rfl; rfl; exact rd_go; rfl) | refine q_skip rfl rfl rfl rfl ?_ | refine c_draw H (by kernel_rfl) ?_ | (refine q_end ?_; clear H; intro _ H) | ((first | refine l_st (z_box H ?_) | refine l_st (s_alloc H rfl ?_)); clear H; intro _ _ _ H) | (refine l_st (t_build0 H rfl ?_); clear H; intro _ _ _ _ H) | (refine l_st (z_sto H ?_); clear H; intro _ H) | ((first | refine c_cond ⟨rfl, rfl⟩ ?_ ?_ | refine c_ncond ⟨rfl, rfl⟩ ?_ ?_ | refine l_split rfl rfl ?_ ?_ | refine q_split rfl rfl ?_ ?_ | refine l_nsplit rfl rfl ?_ ?_ | refine q_nsplit rfl rfl ?_ ?_) <;> intro _ <;> try (exfalso; omega)) | (refine l_st (k_call1 evs_auto H ca_Sw1 rfl ?_); clear H; intro _ _ H) | (refine l_st (k_callg1 evs_auto rfl rfl rfl H ca_Sw1 rfl ?_); clear H; intro _ _ H) | refine kq_call1 evs_auto H (fun _ H => ca_Sw1) rfl ?_ | refine kq_callg1 evs_auto rfl rfl rfl H (fun _ H => ca_Sw1) rfl ?_)
    · refine ret1 H rfl rfl rfl ?_
      refine bv ?_
      have hne : xs[i] ≠ ys[i] := by assumption
      have : ¬ xs = ys := fun e => hne (by simp [e])
      simp [this]
    · have hxy : ¬ xs[i] ≠ ys[i] := by assumption
      exact lk_n rfl (n' := xs.length - (i + 1)) (by omega) ⟨i + 1, rfl, hi', rfl, take_step hi' hi2 ht (Classical.not_not.1 hxy), H⟩
  · repeat' (first | (apply l_rd; exact rd_go; rfl) | (apply q_rd; exact rd_go; rfl) | refine stp ?_ | refine bk_o rfl ?_ | refine c_true ⟨rfl, rfl⟩ ?_ | refine c_false ⟨rfl, rfl⟩ ?_ | (apply l_rdg; rfl; rfl; rfl; exact rd_go; rfl) | refine l_skip rfl rfl rfl rfl ?_ | (apply q_rdg; rfl; rfl; rfl; exact rd_go; rfl) | refine q_skip rfl rfl rfl rfl ?_ | refine c_draw H (by kernel_rfl) ?_ | (refine q_end ?_; clear H; intro _ H) | ((first | refine l_st (z_box H ?_) | refine l_st (s_alloc H rfl ?_)); clear H; intro _ _ _ H) | (refine l_st (t_build0 H rfl ?_); clear H; intro _ _ _ _ H) | (refine l_st (z_sto H ?_); clear H; intro _ H) | ((first | refine c_cond ⟨rfl, rfl⟩ ?_ ?_ | refine c_ncond ⟨rfl, rfl⟩ ?_ ?_ | refine l_split rfl rfl ?_ ?_ | refine q_split rfl rfl ?_ ?_ | refine l_nsplit rfl rfl ?_ ?_ | refine q_nsplit rfl rfl ?_ ?_) <;> intro _ <;> try (exfalso; omega)) | (refine l_st (k_call1 evs_auto H ca_Sw1 rfl ?_); clear H; intro _ _ H) | (refine l_st (k_callg1 evs_auto rfl rfl rfl H ca_Sw1 rfl ?_); clear H; intro _ _ H) | refine kq_call1 evs_auto H (fun _ H => ca_Sw1) rfl ?_ | refine kq_callg1 evs_auto rfl rfl rfl H (fun _ H => ca_Sw1) rfl ?_)
    have e : xs = ys := take_all hlen (by rw [show xs.length = i from by omega]; exact ht)
    refine ret1 H rfl rfl rfl ?_
    refine bv ?_
    simp [e]
theorem sameWrs_any (M : Nat → Prop) (xs ys : List Wr) (A B : Option Addr) (c d : Nat) (w : World) (hF : Stab w M (Row kWr 3 A xs)) (hF' : Stab w M (Row kWr 3 B ys)) :
    Ret Tryd.prog 59 [.slice A xs.length c, .slice B ys.length d] w fun v _ => v = .bool (decide (xs = ys)) := by
  have hl := hF.now.len
  refine enter (M := M) (F := [Row kWr 3 A xs, Row kWr 3 B ys]) Tryd.func59 rfl rfl rfl (by simpa using ⟨hF, hF'⟩) fun H => ?_
  repeat' (first | (apply l_rd; exact rd_go; rfl) | (apply q_rd; exact rd_go; rfl) | refine stp ?_ | refine bk_o rfl ?_ | refine c_true ⟨rfl, rfl⟩ ?_ | refine c_false ⟨rfl, rfl⟩ ?_ | (apply l_rdg; rfl; rfl; rfl; exact rd_go; rfl) | refine l_skip rfl rfl rfl rfl ?_ | (apply q_rdg; rfl; rfl; rfl; exact rd_go; rfl) | refine q_skip rfl rfl rfl rfl ?_ | refine c_draw H (by kernel_rfl) ?_ | (refine q_end ?_; clear H; intro _ H) | ((first | refine l_st (z_box H ?_) | refine l_st (s_alloc H rfl ?_)); clear H; intro _ _ _ H) | (refine l_st (t_build0 H rfl ?_); clear H; intro _ _ _ _ H) | (refine l_st (z_sto H ?_); clear H; intro _ H) | ((first | refine c_cond ⟨rfl, rfl⟩ ?_ ?_ | refine c_ncond ⟨rfl, rfl⟩ ?_ ?_ | refine l_split rfl rfl ?_ ?_ | refine q_split rfl rfl ?_ ?_ | refine l_nsplit rfl rfl ?_ ?_ | refine q_nsplit rfl rfl ?_ ?_) <;> intro _ <;> try (exfalso; omega)) | (refine l_st (k_call1 evs_auto H ca_Sw1 rfl ?_); clear H; intro _ _ H) | (refine l_st (k_callg1 evs_auto rfl rfl rfl H ca_Sw1 rfl ?_); clear H; intro _ _ H) | refine kq_call1 evs_auto H (fun _ H => ca_Sw1) rfl ?_ | refine kq_callg1 evs_auto rfl rfl rfl H (fun _ H => ca_Sw1) rfl ?_)
  · refine ret1 H rfl rfl rfl ?_
    refine bv ?_
    have : ¬ xs = ys := fun e => by subst e; contradiction
    simp [this]
  have hlen : xs.length = ys.length := by omega
  refine c_loopk [5] [0, 1] (fun n vs w' => ∃ i : Nat, vs = [.int .i64 i] ∧ i ≤ xs.length ∧ n = xs.length - i ∧ xs.take i = ys.take i ∧ Hp w M w' [] [] [Row kWr 3 A xs, Row kWr 3 B ys]) _ [_, _] rfl ⟨0, rfl, Nat.zero_le _, rfl, rfl, H⟩ ?_
  clear H
  rintro n _ E0 w2 ⟨i, rfl, hi, rfl, ht, H⟩
  by_cases hi' : i < xs.length
  · have hi2 : i < ys.length := by omega
    obtain ⟨A1, c1, _, _, _, _, H1⟩ := H.openWr (A := A) (xs := xs) (i := i) mem_auto hi'
    obtain ⟨A2, c2, _, _, _, _, H2⟩ := H1.openWr (A := B) (xs := ys) (i := i) mem_auto hi2
    clear H H1; have H := H2; clear H2
    repeat' (first | (apply l_rd; exact rd_go; rfl) | (apply q_rd; exact rd_go; rfl) | refine stp ?_ | refine bk_o rfl ?_ | refine c_true ⟨rfl, rfl⟩ ?_ | refine c_false ⟨rfl, rfl⟩ ?_ | (apply l_rdg; rfl; rfl; rfl; exact rd_go; rfl) | refine l_skip rfl rfl rfl rfl ?_ | (apply q_rdg; rfl; rfl; rfl; exact rd_go; rfl) | refine q_skip rfl rfl rfl rfl ?_ | refine c_draw H (by kernel_rfl) ?_ | (refine q_end ?_; clear H; intro _ H) | ((first | refine l_st (z_box H ?_) | refine l_st (s_alloc H rfl ?_)); clear H; intro _ _ _ H) | (refine l_st (t_build0 H rfl ?_); clear H; intro _ _ _ _ H) | (refine l_st (z_sto H ?_); clear H; intro _ H) | ((first | refine c_cond ⟨rfl, rfl⟩ ?_ ?_ | refine c_ncond ⟨rfl, rfl⟩ ?_ ?_ | refine l_split rfl rfl ?_ ?_ | refine q_split rfl rfl ?_ ?_ | refine l_nsplit rfl rfl ?_ ?_ | refine q_nsplit rfl rfl ?_ ?_) <;> intro _ <;> try (exfalso; omega)) | (refine l_st (k_call1 evs_auto H ca_Sw1 rfl ?_); clear H; intro _ _ H) | (refine l_st (k_callg1 evs_auto rfl rfl rfl H ca_Sw1 rfl ?_); clear H; intro _ _ H) | refine kq_call1 evs_auto H (fun _ H => ca_Sw1) rfl ?_ | refine kq_callg1 evs_auto rfl rfl rfl H (fun _ H => ca_Sw1) rfl ?_)
    all_goals first
    | (refine ret1 H rfl rfl rfl ?_
       refine bv ?_
       have : ¬ xs = ys := fun e => by
         have e2 : xs[i] = ys[i] := by simp [e]
         obtain ⟨e3, e4, e5⟩ := Wr.eq_iff.1 e2
         contradiction
       simp [this]
       done)
    | (have e2 : xs[i] = ys[i] := Wr.eq_iff.2 ⟨by omega, by omega, by assumption⟩
       exact lk_n rfl (n' := xs.length - (i + 1)) (by omega) ⟨i + 1, rfl, hi', rfl, take_step hi' hi2 ht e2, H.weak (List.Sublist.refl _) (List.Sublist.refl _) (by simp)⟩)
  · repeat' (first | (apply l_rd; exact rd_go; rfl) | (apply q_rd; exact rd_go; rfl) | refine stp ?_ | refine bk_o rfl ?_ | refine c_true ⟨rfl, rfl⟩ ?_ | refine c_false ⟨rfl, rfl⟩ ?_ | (apply l_rdg; rfl; rfl; rfl; exact rd_go; rfl) | refine l_skip rfl rfl rfl rfl ?_ | (apply q_rdg; rfl; rfl; rfl; exact rd_go; rfl) | refine q_skip rfl rfl rfl rfl ?_ | refine c_draw H (by kernel_rfl) ?_ | (refine q_end ?_; clear H; intro _ H) | ((first | refine l_st (z_box H ?_) | refine l_st (s_alloc H rfl ?_)); clear H; intro _ _ _ H) | (refine l_st (t_build0 H rfl ?_); clear H; intro _ _ _ _ H) | (refine l_st (z_sto H ?_); clear H; intro _ H) | ((first | refine c_cond ⟨rfl, rfl⟩ ?_ ?_ | refine c_ncond ⟨rfl, rfl⟩ ?_ ?_ | refine l_split rfl rfl ?_ ?_ | refine q_split rfl rfl ?_ ?_ | refine l_nsplit rfl rfl ?_ ?_ | refine q_nsplit rfl rfl ?_ ?_) <;> intro _ <;> try (exfalso; omega)) | (refine l_st (k_call1 evs_auto H ca_Sw1 rfl ?_); clear H; intro _ _ H) | (refine l_st (k_callg1 evs_auto rfl rfl rfl H ca_Sw1 rfl ?_); clear H; intro _ _ H) | refine kq_call1 evs_auto H (fun _ H => ca_Sw1) rfl ?_ | refine kq_callg1 evs_auto rfl rfl rfl H (fun _ H => ca_Sw1) rfl ?_)
    have e : xs = ys := take_all hlen (by rw [show xs.length = i from by omega]; exact ht)
    refine ret1 H rfl rfl rfl ?_
    refine bv ?_
    simp [e]
end Go.Proofs.YtiolpldihoghiaaDoor
