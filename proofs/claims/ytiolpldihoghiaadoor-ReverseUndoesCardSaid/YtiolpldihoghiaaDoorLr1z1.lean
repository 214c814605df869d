/- ReverseUndoes: the walk. ReverseUndoes: for every input of the row's form the law answers true and leaves its input alone. -/
import Derived.Test.YtiolpldihoghiaaDoorC10
import Derived.Test.YtiolpldihoghiaaDoorCards
import Derived.Test.YtiolpldihoghiaaDoorTie
namespace Go.Proofs.YtiolpldihoghiaaDoor
open Go.RowKit
set_option linter.unusedVariables false
set_option linter.unusedSimpArgs false
set_option maxHeartbeats 8000000
theorem ca_Lu1 {k : FuncId} {vs : List Value} {w1 : World} {v : Value} (h : Ret Tryd.prog k vs w1 (fun u _ => u = v) := by first | exact rFewPt_any _ _ _ _ _ _ _ _ _ (by assumption) (H.fact _ mem_auto) (H.fact _ mem_auto) (H.fact _ mem_auto) | exact awake_any _ _ (H.mu_lt hM) (H.fact _ mem_auto)) : Ret Tryd.prog k vs w1 (fun u _ => u = v) := h
theorem undoSp_len (p : Pt) (n : Int) (h : p.dirty.length ≤ 1000000) : (undoSp p n).1.length ≤ 1000000 := by
  unfold undoSp; repeat' split
  · simp
  · simp
  · simpa using h
theorem fewPt_len {p : Pt} (h : fewPt p) : p.dirty.length ≤ 1000000 ∧ p.im.length ≤ 1000000 := by
  obtain ⟨_, _, h1, h2⟩ := h
  unfold fewIm at h2
  omega
section
variable (M : Nat → Prop) (w : World) (hM : ∀ b, M b → b < w.heap.size) (p q : Pt) (A1 A2 A3 B1 B2 B3 : Option Addr) (c1 c2 c3 d1 d2 d3 : Nat) (number : Int) (hs : rng .i64 p.site) (hs' : rng .i64 q.site)
  (h1 : Stab w M (Row kSpan 3 A1 p.lin)) (h2 : Stab w M (Row kBm 2 A2 p.dirty)) (h3 : Stab w M (Row kVol 1 A3 p.im)) (k1 : Stab w M (Row kSpan 3 B1 q.lin)) (k2 : Stab w M (Row kBm 2 B2 q.dirty)) (k3 : Stab w M (Row kVol 1 B3 q.im)) (hT : Stab w M TabF)
include hM hs hs' h1 h2 h3 k1 k2 k3 hT
theorem undoes_any :
    Ret Tryd.prog 3 [.agg [.int .i64 p.site, .slice A1 p.lin.length c1, .slice A2 p.dirty.length c2, .slice A3 p.im.length c3].toArray, .agg [.int .i64 q.site, .slice B1 q.lin.length d1, .slice B2 q.dirty.length d2, .slice B3 q.im.length d3].toArray, .int .i64 number] w fun v _ => v = .bool true := by
  refine enter (M := M) (F := [Row kSpan 3 A1 p.lin, Row kBm 2 A2 p.dirty, Row kVol 1 A3 p.im, Row kSpan 3 B1 q.lin, Row kBm 2 B2 q.dirty, Row kVol 1 B3 q.im, TabF]) Tryd.func3 rfl rfl rfl (by simpa using ⟨h1, h2, h3, k1, k2, k3, hT⟩) fun H => ?_
  repeat' (first | (apply l_rd; exact rd_go; rfl) | (apply q_rd; exact rd_go; rfl) | refine stp ?_ | refine bk_o rfl ?_ | refine c_true ⟨rfl, rfl⟩ ?_ | refine c_false ⟨rfl, rfl⟩ ?_ | (apply l_rdg; rfl; rfl; rfl; exact rd_go; rfl) | refine l_skip rfl rfl rfl rfl ?_ | (apply q_rdg; rfl; rfl; rfl; exact rd_go; rfl) | refine q_skip rfl rfl rfl rfl ?_ | refine c_draw H (by kernel_rfl) ?_ | (refine q_end ?_; clear H; intro _ H) | ((first | refine l_st (z_box H ?_) | refine l_st (s_alloc H rfl ?_)); clear H; intro _ _ _ H) | (refine l_st (t_build0 H rfl ?_); clear H; intro _ _ _ _ H) | (refine l_st (z_sto H ?_); clear H; intro _ H) | ((first | refine c_cond ⟨rfl, rfl⟩ ?_ ?_ | refine c_ncond ⟨rfl, rfl⟩ ?_ ?_ | refine l_split rfl rfl ?_ ?_ | refine q_split rfl rfl ?_ ?_ | refine l_nsplit rfl rfl ?_ ?_ | refine q_nsplit rfl rfl ?_ ?_) <;> intro _ <;> try (exfalso; omega)) | (refine l_st (k_call1 evs_auto H ca_Lu1 rfl ?_); clear H; intro _ _ H) | (refine l_st (k_callg1 evs_auto rfl rfl rfl H ca_Lu1 rfl ?_); clear H; intro _ _ H) | refine kq_call1 evs_auto H (fun _ H => ca_Lu1) rfl ?_ | refine kq_callg1 evs_auto rfl rfl rfl H (fun _ H => ca_Lu1) rfl ?_)
  · exact ret1 H rfl rfl rfl rfl
  · exact ret1 H rfl rfl rfl rfl
  have hp : fewPt p := by assumption
  have hq : fewPt q := by assumption
  obtain ⟨p1, p2⟩ := fewPt_len hp
  obtain ⟨q1, q2⟩ := fewPt_len hq
  refine l_st (k_call evs_auto H (undo_any H.mu _ (H.mu_lt hM) p number A1 A2 A3 c1 c2 c3 hs p1 p2 (H.fact _ mem_auto) (H.fact _ mem_auto) (H.fact _ mem_auto) (H.fact _ mem_auto)) rfl ?_)
  rintro _ w1 ⟨v1, rfl, hf⟩ hb H1
  obtain ⟨A10, c10, hv, _, _, hr⟩ := hf.row (H.mu_lt hM) Nat.zero_lt_one (by have := undoSp_len p number p1; omega)
  subst hv
  have H2 := H1.add hr; clear hf hr H H1; have H := H2; clear H2
  repeat' (first | (apply l_rd; exact rd_go; rfl) | (apply q_rd; exact rd_go; rfl) | refine stp ?_ | refine bk_o rfl ?_ | refine c_true ⟨rfl, rfl⟩ ?_ | refine c_false ⟨rfl, rfl⟩ ?_ | (apply l_rdg; rfl; rfl; rfl; exact rd_go; rfl) | refine l_skip rfl rfl rfl rfl ?_ | (apply q_rdg; rfl; rfl; rfl; exact rd_go; rfl) | refine q_skip rfl rfl rfl rfl ?_ | refine c_draw H (by kernel_rfl) ?_ | (refine q_end ?_; clear H; intro _ H) | ((first | refine l_st (z_box H ?_) | refine l_st (s_alloc H rfl ?_)); clear H; intro _ _ _ H) | (refine l_st (t_build0 H rfl ?_); clear H; intro _ _ _ _ H) | (refine l_st (z_sto H ?_); clear H; intro _ H) | ((first | refine c_cond ⟨rfl, rfl⟩ ?_ ?_ | refine c_ncond ⟨rfl, rfl⟩ ?_ ?_ | refine l_split rfl rfl ?_ ?_ | refine q_split rfl rfl ?_ ?_ | refine l_nsplit rfl rfl ?_ ?_ | refine q_nsplit rfl rfl ?_ ?_) <;> intro _ <;> try (exfalso; omega)) | (refine l_st (k_call1 evs_auto H ca_Lu1 rfl ?_); clear H; intro _ _ H) | (refine l_st (k_callg1 evs_auto rfl rfl rfl H ca_Lu1 rfl ?_); clear H; intro _ _ H) | refine kq_call1 evs_auto H (fun _ H => ca_Lu1) rfl ?_ | refine kq_callg1 evs_auto rfl rfl rfl H (fun _ H => ca_Lu1) rfl ?_)
  refine l_st (k_call evs_auto H (rUndo_any H.mu _ (H.mu_lt hM) p number A1 A2 A3 c1 c2 c3 hs p1 p2 (H.fact _ mem_auto) (H.fact _ mem_auto) (H.fact _ mem_auto)) rfl ?_)
  rintro _ w2 ⟨v1, rfl, hf⟩ hb H1
  obtain ⟨A11, c11, hv, _, _, hr⟩ := hf.row (H.mu_lt hM) Nat.zero_lt_one (by have := undoSp_len p number p1; omega)
  subst hv
  have H2 := H1.add hr; clear hf hr H H1; have H := H2; clear H2
  repeat' (first | (apply l_rd; exact rd_go; rfl) | (apply q_rd; exact rd_go; rfl) | refine stp ?_ | refine bk_o rfl ?_ | refine c_true ⟨rfl, rfl⟩ ?_ | refine c_false ⟨rfl, rfl⟩ ?_ | (apply l_rdg; rfl; rfl; rfl; exact rd_go; rfl) | refine l_skip rfl rfl rfl rfl ?_ | (apply q_rdg; rfl; rfl; rfl; exact rd_go; rfl) | refine q_skip rfl rfl rfl rfl ?_ | refine c_draw H (by kernel_rfl) ?_ | (refine q_end ?_; clear H; intro _ H) | ((first | refine l_st (z_box H ?_) | refine l_st (s_alloc H rfl ?_)); clear H; intro _ _ _ H) | (refine l_st (t_build0 H rfl ?_); clear H; intro _ _ _ _ H) | (refine l_st (z_sto H ?_); clear H; intro _ H) | ((first | refine c_cond ⟨rfl, rfl⟩ ?_ ?_ | refine c_ncond ⟨rfl, rfl⟩ ?_ ?_ | refine l_split rfl rfl ?_ ?_ | refine q_split rfl rfl ?_ ?_ | refine l_nsplit rfl rfl ?_ ?_ | refine q_nsplit rfl rfl ?_ ?_) <;> intro _ <;> try (exfalso; omega)) | (refine l_st (k_call1 evs_auto H ca_Lu1 rfl ?_); clear H; intro _ _ H) | (refine l_st (k_callg1 evs_auto rfl rfl rfl H ca_Lu1 rfl ?_); clear H; intro _ _ H) | refine kq_call1 evs_auto H (fun _ H => ca_Lu1) rfl ?_ | refine kq_callg1 evs_auto rfl rfl rfl H (fun _ H => ca_Lu1) rfl ?_)
  refine l_st (k_call evs_auto H (xtents_any H.mu _ (H.mu_lt hM) p q A1 A2 A3 B1 B2 B3 c1 c2 c3 d1 d2 d3 hs p1 p2 hs' q1 q2 (H.fact _ mem_auto) (H.fact _ mem_auto) (H.fact _ mem_auto) (H.fact _ mem_auto) (H.fact _ mem_auto) (H.fact _ mem_auto) (H.fact _ mem_auto)) rfl ?_)
  rintro _ w3 ⟨v1, rfl, hf⟩ hb H1
  obtain ⟨A12, c12, hv, _, _, hr⟩ := hf.row (H.mu_lt hM) Nat.zero_lt_one (by have := betwSp_len p q p1; omega)
  subst hv
  have H2 := H1.add hr; clear hf hr H H1; have H := H2; clear H2
  repeat' (first | (apply l_rd; exact rd_go; rfl) | (apply q_rd; exact rd_go; rfl) | refine stp ?_ | refine bk_o rfl ?_ | refine c_true ⟨rfl, rfl⟩ ?_ | refine c_false ⟨rfl, rfl⟩ ?_ | (apply l_rdg; rfl; rfl; rfl; exact rd_go; rfl) | refine l_skip rfl rfl rfl rfl ?_ | (apply q_rdg; rfl; rfl; rfl; exact rd_go; rfl) | refine q_skip rfl rfl rfl rfl ?_ | refine c_draw H (by kernel_rfl) ?_ | (refine q_end ?_; clear H; intro _ H) | ((first | refine l_st (z_box H ?_) | refine l_st (s_alloc H rfl ?_)); clear H; intro _ _ _ H) | (refine l_st (t_build0 H rfl ?_); clear H; intro _ _ _ _ H) | (refine l_st (z_sto H ?_); clear H; intro _ H) | ((first | refine c_cond ⟨rfl, rfl⟩ ?_ ?_ | refine c_ncond ⟨rfl, rfl⟩ ?_ ?_ | refine l_split rfl rfl ?_ ?_ | refine q_split rfl rfl ?_ ?_ | refine l_nsplit rfl rfl ?_ ?_ | refine q_nsplit rfl rfl ?_ ?_) <;> intro _ <;> try (exfalso; omega)) | (refine l_st (k_call1 evs_auto H ca_Lu1 rfl ?_); clear H; intro _ _ H) | (refine l_st (k_callg1 evs_auto rfl rfl rfl H ca_Lu1 rfl ?_); clear H; intro _ _ H) | refine kq_call1 evs_auto H (fun _ H => ca_Lu1) rfl ?_ | refine kq_callg1 evs_auto rfl rfl rfl H (fun _ H => ca_Lu1) rfl ?_)
  refine l_st (k_call evs_auto H (rXtents_any H.mu _ (H.mu_lt hM) p q A1 A2 A3 B1 B2 B3 c1 c2 c3 d1 d2 d3 hs p1 p2 hs' q1 q2 (H.fact _ mem_auto) (H.fact _ mem_auto) (H.fact _ mem_auto) (H.fact _ mem_auto) (H.fact _ mem_auto) (H.fact _ mem_auto) (H.fact _ mem_auto)) rfl ?_)
  rintro _ w4 ⟨v1, rfl, hf⟩ hb H1
  obtain ⟨A13, c13, hv, _, _, hr⟩ := hf.row (H.mu_lt hM) Nat.zero_lt_one (by have := betwSp_len p q p1; omega)
  subst hv
  have H2 := H1.add hr; clear hf hr H H1; have H := H2; clear H2
  repeat' (first | (apply l_rd; exact rd_go; rfl) | (apply q_rd; exact rd_go; rfl) | refine stp ?_ | refine bk_o rfl ?_ | refine c_true ⟨rfl, rfl⟩ ?_ | refine c_false ⟨rfl, rfl⟩ ?_ | (apply l_rdg; rfl; rfl; rfl; exact rd_go; rfl) | refine l_skip rfl rfl rfl rfl ?_ | (apply q_rdg; rfl; rfl; rfl; exact rd_go; rfl) | refine q_skip rfl rfl rfl rfl ?_ | refine c_draw H (by kernel_rfl) ?_ | (refine q_end ?_; clear H; intro _ H) | ((first | refine l_st (z_box H ?_) | refine l_st (s_alloc H rfl ?_)); clear H; intro _ _ _ H) | (refine l_st (t_build0 H rfl ?_); clear H; intro _ _ _ _ H) | (refine l_st (z_sto H ?_); clear H; intro _ H) | ((first | refine c_cond ⟨rfl, rfl⟩ ?_ ?_ | refine c_ncond ⟨rfl, rfl⟩ ?_ ?_ | refine l_split rfl rfl ?_ ?_ | refine q_split rfl rfl ?_ ?_ | refine l_nsplit rfl rfl ?_ ?_ | refine q_nsplit rfl rfl ?_ ?_) <;> intro _ <;> try (exfalso; omega)) | (refine l_st (k_call1 evs_auto H ca_Lu1 rfl ?_); clear H; intro _ _ H) | (refine l_st (k_callg1 evs_auto rfl rfl rfl H ca_Lu1 rfl ?_); clear H; intro _ _ H) | refine kq_call1 evs_auto H (fun _ H => ca_Lu1) rfl ?_ | refine kq_callg1 evs_auto rfl rfl rfl H (fun _ H => ca_Lu1) rfl ?_)
  have hsx := sameExtss_any _ (undoSp p number).1 (undoSp p number).1 A10 A11 c10 c11 _ (H.fact _ mem_auto) (H.fact _ mem_auto)
  rw [decide_eq_true rfl] at hsx
  refine l_st (k_callg1 evs_auto rfl rfl rfl H hsx rfl ?_)
  clear H hsx; intro _ _ H
  repeat' (first | (apply l_rd; exact rd_go; rfl) | (apply q_rd; exact rd_go; rfl) | refine stp ?_ | refine bk_o rfl ?_ | refine c_true ⟨rfl, rfl⟩ ?_ | refine c_false ⟨rfl, rfl⟩ ?_ | (apply l_rdg; rfl; rfl; rfl; exact rd_go; rfl) | refine l_skip rfl rfl rfl rfl ?_ | (apply q_rdg; rfl; rfl; rfl; exact rd_go; rfl) | refine q_skip rfl rfl rfl rfl ?_ | refine c_draw H (by kernel_rfl) ?_ | (refine q_end ?_; clear H; intro _ H) | ((first | refine l_st (z_box H ?_) | refine l_st (s_alloc H rfl ?_)); clear H; intro _ _ _ H) | (refine l_st (t_build0 H rfl ?_); clear H; intro _ _ _ _ H) | (refine l_st (z_sto H ?_); clear H; intro _ H) | ((first | refine c_cond ⟨rfl, rfl⟩ ?_ ?_ | refine c_ncond ⟨rfl, rfl⟩ ?_ ?_ | refine l_split rfl rfl ?_ ?_ | refine q_split rfl rfl ?_ ?_ | refine l_nsplit rfl rfl ?_ ?_ | refine q_nsplit rfl rfl ?_ ?_) <;> intro _ <;> try (exfalso; omega)) | (refine l_st (k_call1 evs_auto H ca_Lu1 rfl ?_); clear H; intro _ _ H) | (refine l_st (k_callg1 evs_auto rfl rfl rfl H ca_Lu1 rfl ?_); clear H; intro _ _ H) | refine kq_call1 evs_auto H (fun _ H => ca_Lu1) rfl ?_ | refine kq_callg1 evs_auto rfl rfl rfl H (fun _ H => ca_Lu1) rfl ?_)
  have hsx := sameExtss_any _ (betwSp p q).1 (betwSp p q).1 A12 A13 c12 c13 _ (H.fact _ mem_auto) (H.fact _ mem_auto)
  rw [decide_eq_true rfl] at hsx
  refine l_st (k_callg1 evs_auto rfl rfl rfl H hsx rfl ?_)
  clear H hsx; intro _ _ H
  repeat' (first | (apply l_rd; exact rd_go; rfl) | (apply q_rd; exact rd_go; rfl) | refine stp ?_ | refine bk_o rfl ?_ | refine c_true ⟨rfl, rfl⟩ ?_ | refine c_false ⟨rfl, rfl⟩ ?_ | (apply l_rdg; rfl; rfl; rfl; exact rd_go; rfl) | refine l_skip rfl rfl rfl rfl ?_ | (apply q_rdg; rfl; rfl; rfl; exact rd_go; rfl) | refine q_skip rfl rfl rfl rfl ?_ | refine c_draw H (by kernel_rfl) ?_ | (refine q_end ?_; clear H; intro _ H) | ((first | refine l_st (z_box H ?_) | refine l_st (s_alloc H rfl ?_)); clear H; intro _ _ _ H) | (refine l_st (t_build0 H rfl ?_); clear H; intro _ _ _ _ H) | (refine l_st (z_sto H ?_); clear H; intro _ H) | ((first | refine c_cond ⟨rfl, rfl⟩ ?_ ?_ | refine c_ncond ⟨rfl, rfl⟩ ?_ ?_ | refine l_split rfl rfl ?_ ?_ | refine q_split rfl rfl ?_ ?_ | refine l_nsplit rfl rfl ?_ ?_ | refine q_nsplit rfl rfl ?_ ?_) <;> intro _ <;> try (exfalso; omega)) | (refine l_st (k_call1 evs_auto H ca_Lu1 rfl ?_); clear H; intro _ _ H) | (refine l_st (k_callg1 evs_auto rfl rfl rfl H ca_Lu1 rfl ?_); clear H; intro _ _ H) | refine kq_call1 evs_auto H (fun _ H => ca_Lu1) rfl ?_ | refine kq_callg1 evs_auto rfl rfl rfl H (fun _ H => ca_Lu1) rfl ?_)
  exact ret1 H rfl rfl rfl (bv (decide_eq_true rfl))
end
end Go.Proofs.YtiolpldihoghiaaDoor

namespace Go.Proofs.YtiolpldihoghiaaDoor
open Go.RowKit Go.ChangeShapes Go.WideShapes
set_option linter.unusedVariables false
set_option linter.unusedSimpArgs false
set_option maxRecDepth 100000
theorem undoes_met (os : Os) (args : Array Value) : laidMetH Tryd.prog [("math/bits.deBruijn64tab", Rows.laid_math_bits_deBruijn64tab)] ((World.doorLaid Tryd.prog 400 os).forCall (fun _ _ => 0) ⟨#[], args, []⟩).memory := by
  rw [MakeChecks.laidMetH_plain _ _ _ (by kernel_rfl)]
  exact laidMet_of_run' 8 (by kernel_rfl) (by kernel_rfl)
theorem undoes_lifted (os : Os) (started : os.Started) (H : Type) (enc : TypeId × Value → H) :
    ReturnsInHanded {} Tryd.checked os 3 .any (fun w args => (Rows.reverseUndoesSpec.pre enc Tryd.prog Tryd.f3 [] false w args ∧ laidMetH Tryd.prog [("math/bits.deBruijn64tab", Rows.laid_math_bits_deBruijn64tab)] w) ∧ sizedMet enc Tryd.prog Tryd.f3 (OpenSpec.ofChange Rows.reverseUndoesSpec) false w args)
      (Rows.reverseUndoesSpec.post enc Tryd.prog Tryd.f3 false true false false) := by
  refine returnsInHanded_of_change_and (C := Tryd.checked) (X := fun w _ => laidMetH Tryd.prog [("math/bits.deBruijn64tab", Rows.laid_math_bits_deBruijn64tab)] w) (fun _ _ _ hh h => h.of_heap hh) own_knob started (by kernel_rfl) Tryd.func3
    (ChangeSpec.witness_shaped (enc := enc) (C := Tryd.checked) (os := os) (X := fun w _ => laidMetH Tryd.prog [("math/bits.deBruijn64tab", Rows.laid_math_bits_deBruijn64tab)] w) false (World.doorLaid Tryd.prog 400 os) #[.agg #[.int .i64 0, .slice none 0 0, .slice none 0 0, .slice none 0 0], .agg #[.int .i64 0, .slice none 0 0, .slice none 0 0, .slice none 0 0], .int .i64 0] 8 rfl (World.shaped_of_RefB (by kernel_rfl) (by kernel_rfl)) (by kernel_rfl) (by kernel_rfl) (by kernel_rfl) (undoes_met os _)) ?_
  intro W base args ds gs before hval0 hW hcond hsz hL hh
  have hval : ∀ (j : Nat) t v, Tryd.f3.params[j]? = some t → args[j]? = some v → Value.okWide Tryd.prog W .any base t v := hval0
  obtain ⟨pa, pv, hA0, hV0, hps, _, _⟩ := id hW
  have hA1 : DataW.TrodAll enc Tryd.prog W 0 (fun _ => true) true Tryd.f3.params.toList args.toList ds pa := hA0
  have hV : DataW.TrodVars enc Tryd.prog W (fun _ => true) [] gs pv := hV0
  obtain ⟨rfl, rfl⟩ := trodVars_none hV
  have hA := hA1
  rw [Tryd.params3] at hA hval
  obtain ⟨v0, v1, v2, d0, d1, d2, p0, p1, p2, rfl, rfl, rfl, t0, t1, t2⟩ := trodAll_three hA
  obtain ⟨p, _, rfl, A1, c1, A2, c2, A3, c3, rfl, hs, ⟨_, _, h1⟩, ⟨_, _, h2⟩, ⟨_, _, h3⟩⟩ := argAgg opPt (by kernel_rfl) (hval 0 _ v0 rfl rfl) t0 (weight_at hsz 0 (by rw [Tryd.params3]; rfl) rfl)
  obtain ⟨q, _, rfl, B1, e1, B2, e2, B3, e3, rfl, hs', ⟨_, _, k1⟩, ⟨_, _, k2⟩, ⟨_, _, k3⟩⟩ := argAgg opPt (by kernel_rfl) (hval 1 _ v1 rfl rfl) t1 (weight_at hsz 1 (by rw [Tryd.params3]; rfl) rfl)
  obtain ⟨n, rfl, _⟩ := argInt (k := .i64) (by kernel_rfl) (hval 2 _ v2 rfl rfl) t2
  have hc := undoes_any (fun _ => False) W (fun _ h => h.elim) p q A1 A2 A3 B1 B2 B3 c1 c2 c3 e1 e2 e3 n hs hs' h1.stab h2.stab h3.stab k1.stab k2.stab k3.stab (tab_of_laid hL).stab
  refine Calls.mono hc.out ?_
  rintro _ W' ⟨v, rfl, hb, rfl⟩
  have hlt : ∀ x ∈ p0 ++ p1 ++ p2, x.block < W.heap.size := fun x hx => hW.lt x (by rw [hps]; exact List.mem_append_left _ hx)
  refine ⟨_, rfl, post_below (pa := p0 ++ p1 ++ p2) (pv := []) hW (fun _ _ _ => trodAll_mk1 (shut_bool Tryd.underlying4 true)) (fun sp hsp => ?_) (fun _ _ => rfl) hps hb (ok_one (by kernel_rfl) rfl (okWide_bool_mk Tryd.underlying4 true))⟩
  exact DataW.TrodAll.respare kids_ full_ (by rw [Tryd.params3]; decide) (trodAll_below hb hlt hA1) (fun x hx => hsp x (by rw [hps]; exact List.mem_append_left _ hx))
theorem undoes_holds : Rows.ReverseUndoesSaid :=
  OpenClaim.holds_of_wide 3 Tryd.f3 rfl rfl rfl rfl rfl rfl rfl ⟨rfl, rfl, rfl, rfl, rfl⟩ rfl rfl rfl rfl rfl (by kernel_rfl) Tryd.func3 (by kernel_rfl)
    (of_decide_eq_true (by kernel_rfl)) (by unfold Func.isWrapper; first | (rw [if_pos (by decide +kernel)]; kernel_rfl) | (rw [if_neg (by decide +kernel)]; exact ⟨rfl, rfl⟩))
    (fun os started H enc _ => undoes_lifted os started H enc)
theorem undoes_card : Rows.ReverseUndoesCardSaid :=
  Claim7.holds_tied_plain_at .later [] [.data] true (true, "0fbea9f7a9363770ef7d7c442e923654834488058ca280ed95a31cbd94370fd7") false
    undoes_holds (fun _ h => by cases h) (by kernel_rfl) (fun _ h => by cases h) reverseUndoes_row_tie rfl ⟨rfl, rfl⟩ (by kernel_rfl) rfl
    (fun f fn hf hfn => by
      obtain rfl : f = 3 := Option.some.inj ((show Tryd.prog.funcNamed "standby/standbylaw47.ReverseUndoes" = some 3 by kernel_rfl).symm.trans hf) |>.symm
      obtain rfl : fn = Tryd.f3 := (Option.some.inj (Tryd.func3.symm.trans hfn)).symm
      exact ⟨by kernel_rfl, fun j t ht => by
        rw [Tryd.params3] at ht
        have hm := Array.mem_of_getElem? ht
        have hall : (([27, 27, 3] : List Nat).all fun u => !Tryd.prog.wantsStandIn u) = true := by kernel_rfl
        have hm' : t ∈ ([27, 27, 3] : List Nat) := by simpa using hm
        exact (show Tryd.prog.wantsStandIn t = false by simpa using List.all_eq_true.1 hall t hm')⟩)
    (by kernel_rfl)
#print axioms undoes_card
end Go.Proofs.YtiolpldihoghiaaDoor
