/- Sizes compared, ancestors, small points: the contracts. Ancestors, small points, lists of extents compared: the contracts. The reference's between: the contract. delta.marked, delta.Between and the reference's Between: the contracts. delta.Between and the reference's Between: the contracts. -/
import Derived.Test.YtiolpldihoghiaaDoorC6
import Derived.Test.YtiolpldihoghiaaDoorC2
import Derived.Test.YtiolpldihoghiaaDoorC3
namespace Go.Proofs.YtiolpldihoghiaaDoor
open Go.RowKit
set_option linter.unusedVariables false
set_option linter.unusedSimpArgs false
set_option maxHeartbeats 4000000
theorem ca_Im5 {k : FuncId} {vs : List Value} {w1 : World} {v : Value} (h : Ret Tryd.prog k vs w1 (fun u _ => u = v) := by first | exact correct_any _ _ _ _ _ (H.fact _ mem_auto) | exact rLineage_any _ _ _ _ _ (H.fact _ mem_auto) | exact equalFunc_any _ _ _ _ _ _ _ _ (H.fact _ mem_auto) (H.fact _ mem_auto)) : Ret Tryd.prog k vs w1 (fun u _ => u = v) := h
theorem last_any (M : Nat → Prop) (l : List Span) (A : Option Addr) (c : Nat) (w : World) (hF : Stab w M (Row kSpan 3 A l)) :
    Ret Tryd.prog 41 [.slice A l.length c] w fun v _ => v = .int .i64 (lastTo l) := by
  have hlen := hF.now.len
  refine enter (M := M) (F := [Row kSpan 3 A l]) Tryd.func41 rfl rfl rfl (by simpa using hF) fun H => ?_
  repeat' (first | (apply l_rd; exact rd_go; rfl) | (apply q_rd; exact rd_go; rfl) | refine stp ?_ | refine bk_o rfl ?_ | refine c_true ⟨rfl, rfl⟩ ?_ | refine c_false ⟨rfl, rfl⟩ ?_ | (apply l_rdg; rfl; rfl; rfl; exact rd_go; rfl) | refine l_skip rfl rfl rfl rfl ?_ | (apply q_rdg; rfl; rfl; rfl; exact rd_go; rfl) | refine q_skip rfl rfl rfl rfl ?_ | refine c_draw H (by kernel_rfl) ?_ | (refine q_end ?_; clear H; intro _ H) | ((first | refine l_st (z_box H ?_) | refine l_st (s_alloc H rfl ?_)); clear H; intro _ _ _ H) | (refine l_st (t_build0 H rfl ?_); clear H; intro _ _ _ _ H) | (refine l_st (z_sto H ?_); clear H; intro _ H) | ((first | refine c_cond ⟨rfl, rfl⟩ ?_ ?_ | refine c_ncond ⟨rfl, rfl⟩ ?_ ?_ | refine l_split rfl rfl ?_ ?_ | refine q_split rfl rfl ?_ ?_ | refine l_nsplit rfl rfl ?_ ?_ | refine q_nsplit rfl rfl ?_ ?_) <;> intro _ <;> try (exfalso; omega)) | (refine l_st (k_call1 evs_auto H ca_Im5 rfl ?_); clear H; intro _ _ H) | (refine l_st (k_callg1 evs_auto rfl rfl rfl H ca_Im5 rfl ?_); clear H; intro _ _ H) | refine kq_call1 evs_auto H (fun _ H => ca_Im5) rfl ?_ | refine kq_callg1 evs_auto rfl rfl rfl H (fun _ H => ca_Im5) rfl ?_)
  · (refine ret1 H rfl rfl rfl ?_; refine iv ?_); rw [List.eq_nil_of_length_eq_zero (by omega : l.length = 0)]; rfl
  · (refine ret1 H rfl rfl rfl ?_; refine iv ?_); rw [lastTo_at (i := ((l.length : Int) - 1).toNat) (by omega) (by omega)]
theorem eqLen_any (A B : Option Addr) (n m c d : Nat) (w : World) : Ret Tryd.prog 136 [.slice A n c, .slice B m d] w fun v _ => v = .bool (decide ((n : Int) = m)) := by
  refine enter (M := fun _ => False) (F := []) Tryd.func136 rfl rfl rfl (by simp) fun H => ?_
  repeat' (first | (apply l_rd; exact rd_go; rfl) | (apply q_rd; exact rd_go; rfl) | refine stp ?_ | refine bk_o rfl ?_ | refine c_true ⟨rfl, rfl⟩ ?_ | refine c_false ⟨rfl, rfl⟩ ?_ | (apply l_rdg; rfl; rfl; rfl; exact rd_go; rfl) | refine l_skip rfl rfl rfl rfl ?_ | (apply q_rdg; rfl; rfl; rfl; exact rd_go; rfl) | refine q_skip rfl rfl rfl rfl ?_ | refine c_draw H (by kernel_rfl) ?_ | (refine q_end ?_; clear H; intro _ H) | ((first | refine l_st (z_box H ?_) | refine l_st (s_alloc H rfl ?_)); clear H; intro _ _ _ H) | (refine l_st (t_build0 H rfl ?_); clear H; intro _ _ _ _ H) | (refine l_st (z_sto H ?_); clear H; intro _ H) | ((first | refine c_cond ⟨rfl, rfl⟩ ?_ ?_ | refine c_ncond ⟨rfl, rfl⟩ ?_ ?_ | refine l_split rfl rfl ?_ ?_ | refine q_split rfl rfl ?_ ?_ | refine l_nsplit rfl rfl ?_ ?_ | refine q_nsplit rfl rfl ?_ ?_) <;> intro _ <;> try (exfalso; omega)) | (refine l_st (k_call1 evs_auto H ca_Im5 rfl ?_); clear H; intro _ _ H) | (refine l_st (k_callg1 evs_auto rfl rfl rfl H ca_Im5 rfl ?_); clear H; intro _ _ H) | refine kq_call1 evs_auto H (fun _ H => ca_Im5) rfl ?_ | refine kq_callg1 evs_auto rfl rfl rfl H (fun _ H => ca_Im5) rfl ?_)
  exact ret1 H rfl rfl rfl rfl
theorem equalFunc_any (M : Nat → Prop) (a b : List (List Sec)) (A B : Option Addr) (c d : Nat) (w : World) (hF : Stab w M (Row kVol 1 A a)) (hF' : Stab w M (Row kVol 1 B b)) :
    Ret Tryd.prog 135 [.slice A a.length c, .slice B b.length d, .func (.func 136) #[] #[]] w fun v _ => v = .bool (decide (sizesOf a = sizesOf b)) := by
  have hla := hF.now.len
  refine enter (M := M) (F := [Row kVol 1 A a, Row kVol 1 B b]) Tryd.func135 rfl rfl rfl (by simpa using ⟨hF, hF'⟩) fun H => ?_
  repeat' (first | (apply l_rd; exact rd_go; rfl) | (apply q_rd; exact rd_go; rfl) | refine stp ?_ | refine bk_o rfl ?_ | refine c_true ⟨rfl, rfl⟩ ?_ | refine c_false ⟨rfl, rfl⟩ ?_ | (apply l_rdg; rfl; rfl; rfl; exact rd_go; rfl) | refine l_skip rfl rfl rfl rfl ?_ | (apply q_rdg; rfl; rfl; rfl; exact rd_go; rfl) | refine q_skip rfl rfl rfl rfl ?_ | refine c_draw H (by kernel_rfl) ?_ | (refine q_end ?_; clear H; intro _ H) | ((first | refine l_st (z_box H ?_) | refine l_st (s_alloc H rfl ?_)); clear H; intro _ _ _ H) | (refine l_st (t_build0 H rfl ?_); clear H; intro _ _ _ _ H) | (refine l_st (z_sto H ?_); clear H; intro _ H) | ((first | refine c_cond ⟨rfl, rfl⟩ ?_ ?_ | refine c_ncond ⟨rfl, rfl⟩ ?_ ?_ | refine l_split rfl rfl ?_ ?_ | refine q_split rfl rfl ?_ ?_ | refine l_nsplit rfl rfl ?_ ?_ | refine q_nsplit rfl rfl ?_ ?_) <;> intro _ <;> try (exfalso; omega)) | (refine l_st (k_call1 evs_auto H ca_Im5 rfl ?_); clear H; intro _ _ H) | (refine l_st (k_callg1 evs_auto rfl rfl rfl H ca_Im5 rfl ?_); clear H; intro _ _ H) | refine kq_call1 evs_auto H (fun _ H => ca_Im5) rfl ?_ | refine kq_callg1 evs_auto rfl rfl rfl H (fun _ H => ca_Im5) rfl ?_)
  · refine ret1 H rfl rfl rfl ?_
    refine bv ?_
    rw [decide_eq_false]; intro e; have := congrArg List.length e; simp only [sizesOf_len] at this; omega
  have hl : a.length = b.length := by omega
  have hls : (sizesOf a).length = (sizesOf b).length := by rw [sizesOf_len, sizesOf_len, hl]
  refine c_loopk [17] [0, 1, 2, 15, 16] (fun n vs w' => ∃ i : Nat, vs = [.int .i64 i] ∧ i ≤ a.length ∧ n = a.length - i ∧ (sizesOf a).take i = (sizesOf b).take i ∧ Hp w M w' [] [] [Row kVol 1 A a, Row kVol 1 B b]) _ [_, _, _, _, _] rfl ⟨0, rfl, Nat.zero_le _, rfl, rfl, H⟩ ?_
  clear H
  rintro n _ E0 w2 ⟨i, rfl, hi, rfl, ht, H⟩
  by_cases hi' : i < a.length
  · obtain ⟨A4, c4, _, _, H1⟩ := H.openS (A := A) (xs := a) mem_auto hi'
    obtain ⟨A5, c5, _, _, H2⟩ := H1.openS (dd := kSec) (sz := 8) (A := B) (xs := b) (i := i) mem_auto (by omega)
    clear H H1; have H := H2; clear H2
    have q1 : i < (sizesOf a).length := by rw [sizesOf_len]; omega
    have q2 : i < (sizesOf b).length := by rw [sizesOf_len]; omega
    have e1 := sizesOf_at hi' q1
    have e2 := sizesOf_at (by omega : i < b.length) q2
    repeat' (first | (apply l_rd; exact rd_go; rfl) | (apply q_rd; exact rd_go; rfl) | refine stp ?_ | refine bk_o rfl ?_ | refine c_true ⟨rfl, rfl⟩ ?_ | refine c_false ⟨rfl, rfl⟩ ?_ | (apply l_rdg; rfl; rfl; rfl; exact rd_go; rfl) | refine l_skip rfl rfl rfl rfl ?_ | (apply q_rdg; rfl; rfl; rfl; exact rd_go; rfl) | refine q_skip rfl rfl rfl rfl ?_ | refine c_draw H (by kernel_rfl) ?_ | (refine q_end ?_; clear H; intro _ H) | ((first | refine l_st (z_box H ?_) | refine l_st (s_alloc H rfl ?_)); clear H; intro _ _ _ H) | (refine l_st (t_build0 H rfl ?_); clear H; intro _ _ _ _ H) | (refine l_st (z_sto H ?_); clear H; intro _ H) | ((first | refine c_cond ⟨rfl, rfl⟩ ?_ ?_ | refine c_ncond ⟨rfl, rfl⟩ ?_ ?_ | refine l_split rfl rfl ?_ ?_ | refine q_split rfl rfl ?_ ?_ | refine l_nsplit rfl rfl ?_ ?_ | refine q_nsplit rfl rfl ?_ ?_) <;> intro _ <;> try (exfalso; omega)) | (refine l_st (k_call1 evs_auto H ca_Im5 rfl ?_); clear H; intro _ _ H) | (refine l_st (k_callg1 evs_auto rfl rfl rfl H ca_Im5 rfl ?_); clear H; intro _ _ H) | refine kq_call1 evs_auto H (fun _ H => ca_Im5) rfl ?_ | refine kq_callg1 evs_auto rfl rfl rfl H (fun _ H => ca_Im5) rfl ?_)
    refine l_st (k_callv0 evs_auto ⟨rfl, rfl⟩ H (eqLen_any _ _ _ _ _ _ _) rfl ?_)
    clear H; rintro _ w1 rfl _ H
    repeat' (first | (apply l_rd; exact rd_go; rfl) | (apply q_rd; exact rd_go; rfl) | refine stp ?_ | refine bk_o rfl ?_ | refine c_true ⟨rfl, rfl⟩ ?_ | refine c_false ⟨rfl, rfl⟩ ?_ | (apply l_rdg; rfl; rfl; rfl; exact rd_go; rfl) | refine l_skip rfl rfl rfl rfl ?_ | (apply q_rdg; rfl; rfl; rfl; exact rd_go; rfl) | refine q_skip rfl rfl rfl rfl ?_ | refine c_draw H (by kernel_rfl) ?_ | (refine q_end ?_; clear H; intro _ H) | ((first | refine l_st (z_box H ?_) | refine l_st (s_alloc H rfl ?_)); clear H; intro _ _ _ H) | (refine l_st (t_build0 H rfl ?_); clear H; intro _ _ _ _ H) | (refine l_st (z_sto H ?_); clear H; intro _ H) | ((first | refine c_cond ⟨rfl, rfl⟩ ?_ ?_ | refine c_ncond ⟨rfl, rfl⟩ ?_ ?_ | refine l_split rfl rfl ?_ ?_ | refine q_split rfl rfl ?_ ?_ | refine l_nsplit rfl rfl ?_ ?_ | refine q_nsplit rfl rfl ?_ ?_) <;> intro _ <;> try (exfalso; omega)) | (refine l_st (k_call1 evs_auto H ca_Im5 rfl ?_); clear H; intro _ _ H) | (refine l_st (k_callg1 evs_auto rfl rfl rfl H ca_Im5 rfl ?_); clear H; intro _ _ H) | refine kq_call1 evs_auto H (fun _ H => ca_Im5) rfl ?_ | refine kq_callg1 evs_auto rfl rfl rfl H (fun _ H => ca_Im5) rfl ?_)
    · have h : ¬ (a[i].length : Int) = (b[i].length : Int) := by assumption
      refine ret1 H rfl rfl rfl ?_
      refine bv ?_
      rw [decide_eq_false]; intro e
      have : (sizesOf a)[i] = (sizesOf b)[i] := by simp only [e]
      rw [e1, e2] at this; exact h this
    · have h : (a[i].length : Int) = (b[i].length : Int) := by assumption
      exact lk_n rfl (n' := a.length - (i + 1)) (by omega) ⟨i + 1, rfl, hi', rfl, take_step q1 q2 ht (by rw [e1, e2]; exact h), H.weak (List.Sublist.refl _) (List.Sublist.refl _) (by simp)⟩
  · repeat' (first | (apply l_rd; exact rd_go; rfl) | (apply q_rd; exact rd_go; rfl) | refine stp ?_ | refine bk_o rfl ?_ | refine c_true ⟨rfl, rfl⟩ ?_ | refine c_false ⟨rfl, rfl⟩ ?_ | (apply l_rdg; rfl; rfl; rfl; exact rd_go; rfl) | refine l_skip rfl rfl rfl rfl ?_ | (apply q_rdg; rfl; rfl; rfl; exact rd_go; rfl) | refine q_skip rfl rfl rfl rfl ?_ | refine c_draw H (by kernel_rfl) ?_ | (refine q_end ?_; clear H; intro _ H) | ((first | refine l_st (z_box H ?_) | refine l_st (s_alloc H rfl ?_)); clear H; intro _ _ _ H) | (refine l_st (t_build0 H rfl ?_); clear H; intro _ _ _ _ H) | (refine l_st (z_sto H ?_); clear H; intro _ H) | ((first | refine c_cond ⟨rfl, rfl⟩ ?_ ?_ | refine c_ncond ⟨rfl, rfl⟩ ?_ ?_ | refine l_split rfl rfl ?_ ?_ | refine q_split rfl rfl ?_ ?_ | refine l_nsplit rfl rfl ?_ ?_ | refine q_nsplit rfl rfl ?_ ?_) <;> intro _ <;> try (exfalso; omega)) | (refine l_st (k_call1 evs_auto H ca_Im5 rfl ?_); clear H; intro _ _ H) | (refine l_st (k_callg1 evs_auto rfl rfl rfl H ca_Im5 rfl ?_); clear H; intro _ _ H) | refine kq_call1 evs_auto H (fun _ H => ca_Im5) rfl ?_ | refine kq_callg1 evs_auto rfl rfl rfl H (fun _ H => ca_Im5) rfl ?_)
    have hi2 : i = a.length := by omega
    refine ret1 H rfl rfl rfl ?_
    refine bv ?_
    rw [decide_eq_true]
    refine take_all hls ?_
    rw [sizesOf_len]; rw [hi2] at ht; exact ht
theorem alike_any (M : Nat → Prop) (a b : List (List Sec)) (A B : Option Addr) (c d : Nat) (w : World) (hF : Stab w M (Row kVol 1 A a)) (hF' : Stab w M (Row kVol 1 B b)) :
    Ret Tryd.prog 98 [.slice A a.length c, .slice B b.length d] w fun v _ => v = .bool (decide (sizesOf a = sizesOf b)) := by
  refine enter (M := M) (F := [Row kVol 1 A a, Row kVol 1 B b]) Tryd.func98 rfl rfl rfl (by simpa using ⟨hF, hF'⟩) fun H => ?_
  repeat' (first | (apply l_rd; exact rd_go; rfl) | (apply q_rd; exact rd_go; rfl) | refine stp ?_ | refine bk_o rfl ?_ | refine c_true ⟨rfl, rfl⟩ ?_ | refine c_false ⟨rfl, rfl⟩ ?_ | (apply l_rdg; rfl; rfl; rfl; exact rd_go; rfl) | refine l_skip rfl rfl rfl rfl ?_ | (apply q_rdg; rfl; rfl; rfl; exact rd_go; rfl) | refine q_skip rfl rfl rfl rfl ?_ | refine c_draw H (by kernel_rfl) ?_ | (refine q_end ?_; clear H; intro _ H) | ((first | refine l_st (z_box H ?_) | refine l_st (s_alloc H rfl ?_)); clear H; intro _ _ _ H) | (refine l_st (t_build0 H rfl ?_); clear H; intro _ _ _ _ H) | (refine l_st (z_sto H ?_); clear H; intro _ H) | ((first | refine c_cond ⟨rfl, rfl⟩ ?_ ?_ | refine c_ncond ⟨rfl, rfl⟩ ?_ ?_ | refine l_split rfl rfl ?_ ?_ | refine q_split rfl rfl ?_ ?_ | refine l_nsplit rfl rfl ?_ ?_ | refine q_nsplit rfl rfl ?_ ?_) <;> intro _ <;> try (exfalso; omega)) | (refine l_st (k_call1 evs_auto H ca_Im5 rfl ?_); clear H; intro _ _ H) | (refine l_st (k_callg1 evs_auto rfl rfl rfl H ca_Im5 rfl ?_); clear H; intro _ _ H) | refine kq_call1 evs_auto H (fun _ H => ca_Im5) rfl ?_ | refine kq_callg1 evs_auto rfl rfl rfl H (fun _ H => ca_Im5) rfl ?_)
  exact ret1 H rfl rfl rfl rfl
theorem sameSizes_any (M : Nat → Prop) (a b : List (List Sec)) (A B : Option Addr) (c d : Nat) (u1 u2 u3 v1 v2 v3 : Value) (w : World) (hF : Stab w M (Row kVol 1 A a)) (hF' : Stab w M (Row kVol 1 B b)) :
    Ret Tryd.prog 100 [.agg [u1, u2, u3, .slice A a.length c].toArray, .agg [v1, v2, v3, .slice B b.length d].toArray] w fun v _ => v = .bool (decide (sizesOf a = sizesOf b)) := by
  have hla := hF.now.len
  refine enter (M := M) (F := [Row kVol 1 A a, Row kVol 1 B b]) Tryd.func100 rfl rfl rfl (by simpa using ⟨hF, hF'⟩) fun H => ?_
  repeat' (first | (apply l_rd; exact rd_go; rfl) | (apply q_rd; exact rd_go; rfl) | refine stp ?_ | refine bk_o rfl ?_ | refine c_true ⟨rfl, rfl⟩ ?_ | refine c_false ⟨rfl, rfl⟩ ?_ | (apply l_rdg; rfl; rfl; rfl; exact rd_go; rfl) | refine l_skip rfl rfl rfl rfl ?_ | (apply q_rdg; rfl; rfl; rfl; exact rd_go; rfl) | refine q_skip rfl rfl rfl rfl ?_ | refine c_draw H (by kernel_rfl) ?_ | (refine q_end ?_; clear H; intro _ H) | ((first | refine l_st (z_box H ?_) | refine l_st (s_alloc H rfl ?_)); clear H; intro _ _ _ H) | (refine l_st (t_build0 H rfl ?_); clear H; intro _ _ _ _ H) | (refine l_st (z_sto H ?_); clear H; intro _ H) | ((first | refine c_cond ⟨rfl, rfl⟩ ?_ ?_ | refine c_ncond ⟨rfl, rfl⟩ ?_ ?_ | refine l_split rfl rfl ?_ ?_ | refine q_split rfl rfl ?_ ?_ | refine l_nsplit rfl rfl ?_ ?_ | refine q_nsplit rfl rfl ?_ ?_) <;> intro _ <;> try (exfalso; omega)) | (refine l_st (k_call1 evs_auto H ca_Im5 rfl ?_); clear H; intro _ _ H) | (refine l_st (k_callg1 evs_auto rfl rfl rfl H ca_Im5 rfl ?_); clear H; intro _ _ H) | refine kq_call1 evs_auto H (fun _ H => ca_Im5) rfl ?_ | refine kq_callg1 evs_auto rfl rfl rfl H (fun _ H => ca_Im5) rfl ?_)
  · refine ret1 H rfl rfl rfl ?_
    refine bv ?_
    rw [decide_eq_false]; intro e; have := congrArg List.length e; simp only [sizesOf_len] at this; omega
  have hl : a.length = b.length := by omega
  have hls : (sizesOf a).length = (sizesOf b).length := by rw [sizesOf_len, sizesOf_len, hl]
  refine c_loopk [5] [2, 3] (fun n vs w' => ∃ i : Nat, vs = [.int .i64 i] ∧ i ≤ a.length ∧ n = a.length - i ∧ (sizesOf a).take i = (sizesOf b).take i ∧ Hp w M w' [⟨_, [v1, v2, v3, .slice B b.length d], _⟩, ⟨_, [u1, u2, u3, .slice A a.length c], _⟩] [] [Row kVol 1 A a, Row kVol 1 B b]) _ [_, _] rfl ⟨0, rfl, Nat.zero_le _, rfl, rfl, H⟩ ?_
  clear H
  rintro n _ E0 w2 ⟨i, rfl, hi, rfl, ht, H⟩
  by_cases hi' : i < a.length
  · obtain ⟨A4, c4, _, _, H1⟩ := H.openS (A := A) (xs := a) mem_auto hi'
    obtain ⟨A5, c5, _, _, H2⟩ := H1.openS (dd := kSec) (sz := 8) (A := B) (xs := b) (i := i) mem_auto (by omega)
    clear H H1; have H := H2; clear H2
    have q1 : i < (sizesOf a).length := by rw [sizesOf_len]; omega
    have q2 : i < (sizesOf b).length := by rw [sizesOf_len]; omega
    have e1 := sizesOf_at hi' q1
    have e2 := sizesOf_at (by omega : i < b.length) q2
    repeat' (first | (apply l_rd; exact rd_go; rfl) | (apply q_rd; exact rd_go; rfl) | refine stp ?_ | refine bk_o rfl ?_ | refine c_true ⟨rfl, rfl⟩ ?_ | refine c_false ⟨rfl, rfl⟩ ?_ | (apply l_rdg; rfl; rfl; rfl; exact rd_go; rfl) | refine l_skip rfl rfl rfl rfl ?_ | (apply q_rdg; rfl; rfl; rfl; exact rd_go; rfl) | refine q_skip rfl rfl rfl rfl ?_ | refine c_draw H (by kernel_rfl) ?_ | (refine q_end ?_; clear H; intro _ H) | ((first | refine l_st (z_box H ?_) | refine l_st (s_alloc H rfl ?_)); clear H; intro _ _ _ H) | (refine l_st (t_build0 H rfl ?_); clear H; intro _ _ _ _ H) | (refine l_st (z_sto H ?_); clear H; intro _ H) | ((first | refine c_cond ⟨rfl, rfl⟩ ?_ ?_ | refine c_ncond ⟨rfl, rfl⟩ ?_ ?_ | refine l_split rfl rfl ?_ ?_ | refine q_split rfl rfl ?_ ?_ | refine l_nsplit rfl rfl ?_ ?_ | refine q_nsplit rfl rfl ?_ ?_) <;> intro _ <;> try (exfalso; omega)) | (refine l_st (k_call1 evs_auto H ca_Im5 rfl ?_); clear H; intro _ _ H) | (refine l_st (k_callg1 evs_auto rfl rfl rfl H ca_Im5 rfl ?_); clear H; intro _ _ H) | refine kq_call1 evs_auto H (fun _ H => ca_Im5) rfl ?_ | refine kq_callg1 evs_auto rfl rfl rfl H (fun _ H => ca_Im5) rfl ?_)
    · have h : (a[i].length : Int) ≠ (b[i].length : Int) := by assumption
      refine ret1 H rfl rfl rfl ?_
      refine bv ?_
      rw [decide_eq_false]; intro e
      have : (sizesOf a)[i] = (sizesOf b)[i] := by simp only [e]
      rw [e1, e2] at this; exact h this
    · have h : ¬ (a[i].length : Int) ≠ (b[i].length : Int) := by assumption
      exact lk_n rfl (n' := a.length - (i + 1)) (by omega) ⟨i + 1, rfl, hi', rfl, take_step q1 q2 ht (by rw [e1, e2]; omega), H.weak (List.Sublist.refl _) (List.Sublist.refl _) (by simp)⟩
  · repeat' (first | (apply l_rd; exact rd_go; rfl) | (apply q_rd; exact rd_go; rfl) | refine stp ?_ | refine bk_o rfl ?_ | refine c_true ⟨rfl, rfl⟩ ?_ | refine c_false ⟨rfl, rfl⟩ ?_ | (apply l_rdg; rfl; rfl; rfl; exact rd_go; rfl) | refine l_skip rfl rfl rfl rfl ?_ | (apply q_rdg; rfl; rfl; rfl; exact rd_go; rfl) | refine q_skip rfl rfl rfl rfl ?_ | refine c_draw H (by kernel_rfl) ?_ | (refine q_end ?_; clear H; intro _ H) | ((first | refine l_st (z_box H ?_) | refine l_st (s_alloc H rfl ?_)); clear H; intro _ _ _ H) | (refine l_st (t_build0 H rfl ?_); clear H; intro _ _ _ _ H) | (refine l_st (z_sto H ?_); clear H; intro _ H) | ((first | refine c_cond ⟨rfl, rfl⟩ ?_ ?_ | refine c_ncond ⟨rfl, rfl⟩ ?_ ?_ | refine l_split rfl rfl ?_ ?_ | refine q_split rfl rfl ?_ ?_ | refine l_nsplit rfl rfl ?_ ?_ | refine q_nsplit rfl rfl ?_ ?_) <;> intro _ <;> try (exfalso; omega)) | (refine l_st (k_call1 evs_auto H ca_Im5 rfl ?_); clear H; intro _ _ H) | (refine l_st (k_callg1 evs_auto rfl rfl rfl H ca_Im5 rfl ?_); clear H; intro _ _ H) | refine kq_call1 evs_auto H (fun _ H => ca_Im5) rfl ?_ | refine kq_callg1 evs_auto rfl rfl rfl H (fun _ H => ca_Im5) rfl ?_)
    have hi2 : i = a.length := by omega
    refine ret1 H rfl rfl rfl ?_
    refine bv ?_
    rw [decide_eq_true]
    refine take_all hls ?_
    rw [sizesOf_len]; rw [hi2] at ht; exact ht
end Go.Proofs.YtiolpldihoghiaaDoor

namespace Go.Proofs.YtiolpldihoghiaaDoor
open Go.RowKit
set_option linter.unusedVariables false
set_option linter.unusedSimpArgs false
set_option maxHeartbeats 4000000
theorem ca_Im6 {k : FuncId} {vs : List Value} {w1 : World} {v : Value} (h : Ret Tryd.prog k vs w1 (fun u _ => u = v) := by first | exact correct_any _ _ _ _ _ (H.fact _ mem_auto) | exact rLineage_any _ _ _ _ _ (H.fact _ mem_auto) | exact sameExts_any _ _ _ _ _ _ _ _ (H.fact _ mem_auto) (H.fact _ mem_auto) | exact rFew_any _ _ _ _ _ (H.fact _ mem_auto)) : Ret Tryd.prog k vs w1 (fun u _ => u = v) := h
theorem anc_any (M : Nat → Prop) (a b : List Span) (A B : Option Addr) (c d : Nat) (w : World) (hF : Stab w M (Row kSpan 3 A a)) (hF' : Stab w M (Row kSpan 3 B b)) :
    Ret Tryd.prog 50 [.slice A a.length c, .slice B b.length d] w fun v _ => v = .tuple #[.int .i64 (anc a b).1, .int .i64 (anc a b).2] := by
  have hla := hF.now.len
  have hlb := hF'.now.len
  refine enter (M := M) (F := [Row kSpan 3 A a, Row kSpan 3 B b]) Tryd.func50 rfl rfl rfl (by simpa using ⟨hF, hF'⟩) fun H => ?_
  repeat' (first | (apply l_rd; exact rd_go; rfl) | (apply q_rd; exact rd_go; rfl) | refine stp ?_ | refine bk_o rfl ?_ | refine c_true ⟨rfl, rfl⟩ ?_ | refine c_false ⟨rfl, rfl⟩ ?_ | (apply l_rdg; rfl; rfl; rfl; exact rd_go; rfl) | refine l_skip rfl rfl rfl rfl ?_ | (apply q_rdg; rfl; rfl; rfl; exact rd_go; rfl) | refine q_skip rfl rfl rfl rfl ?_ | refine c_draw H (by kernel_rfl) ?_ | (refine q_end ?_; clear H; intro _ H) | ((first | refine l_st (z_box H ?_) | refine l_st (s_alloc H rfl ?_)); clear H; intro _ _ _ H) | (refine l_st (t_build0 H rfl ?_); clear H; intro _ _ _ _ H) | (refine l_st (z_sto H ?_); clear H; intro _ H) | ((first | refine c_cond ⟨rfl, rfl⟩ ?_ ?_ | refine c_ncond ⟨rfl, rfl⟩ ?_ ?_ | refine l_split rfl rfl ?_ ?_ | refine q_split rfl rfl ?_ ?_ | refine l_nsplit rfl rfl ?_ ?_ | refine q_nsplit rfl rfl ?_ ?_) <;> intro _ <;> try (exfalso; omega)) | (refine l_st (k_call1 evs_auto H ca_Im6 rfl ?_); clear H; intro _ _ H) | (refine l_st (k_callg1 evs_auto rfl rfl rfl H ca_Im6 rfl ?_); clear H; intro _ _ H) | refine kq_call1 evs_auto H (fun _ H => ca_Im6) rfl ?_ | refine kq_callg1 evs_auto rfl rfl rfl H (fun _ H => ca_Im6) rfl ?_)
  · have h : ¬ linOk a = true := by assumption
    (refine ret2 (v := .int _ _) (v' := .int _ _) H rfl rfl rfl rfl ?_); unfold anc; rw [if_pos (.inl (by simpa using h))]
  · have h : ¬ linOk b = true := by assumption
    (refine ret2 (v := .int _ _) (v' := .int _ _) H rfl rfl rfl rfl ?_); unfold anc; rw [if_pos (.inr (by simpa using h))]
  have h1 : linOk a = true := by assumption
  have h2 : linOk b = true := by assumption
  have hanc : anc a b = ancGo (0, 0) a b := by unfold anc; rw [if_neg (by simp [h1, h2])]
  refine c_loopk [8, 6, 7] [0, 1] (fun n vs w' => ∃ (i : Nat) (x y : Int), vs = [.int .i64 i, .int .i64 x, .int .i64 y] ∧ i ≤ a.length ∧ i ≤ b.length ∧ n = a.length - i ∧ ancGo (x, y) (a.drop i) (b.drop i) = anc a b ∧
      Hp w M w' [] [] [Row kSpan 3 A a, Row kSpan 3 B b]) _ [_, _] rfl ⟨0, 0, 0, rfl, Nat.zero_le _, Nat.zero_le _, rfl, hanc.symm, H⟩ ?_
  clear H
  rintro n _ E0 w2 ⟨i, x, y, rfl, hi, hi1, rfl, hg, H⟩
  by_cases hlt : i < a.length ∧ i < b.length
  · obtain ⟨q1, q2⟩ := hlt
    have hst := ancGo_step (p := (x, y)) q1 q2
    rw [hg] at hst
    repeat' (first | (apply l_rd; exact rd_go; rfl) | (apply q_rd; exact rd_go; rfl) | refine stp ?_ | refine bk_o rfl ?_ | refine c_true ⟨rfl, rfl⟩ ?_ | refine c_false ⟨rfl, rfl⟩ ?_ | (apply l_rdg; rfl; rfl; rfl; exact rd_go; rfl) | refine l_skip rfl rfl rfl rfl ?_ | (apply q_rdg; rfl; rfl; rfl; exact rd_go; rfl) | refine q_skip rfl rfl rfl rfl ?_ | refine c_draw H (by kernel_rfl) ?_ | (refine q_end ?_; clear H; intro _ H) | ((first | refine l_st (z_box H ?_) | refine l_st (s_alloc H rfl ?_)); clear H; intro _ _ _ H) | (refine l_st (t_build0 H rfl ?_); clear H; intro _ _ _ _ H) | (refine l_st (z_sto H ?_); clear H; intro _ H) | ((first | refine c_cond ⟨rfl, rfl⟩ ?_ ?_ | refine c_ncond ⟨rfl, rfl⟩ ?_ ?_ | refine l_split rfl rfl ?_ ?_ | refine q_split rfl rfl ?_ ?_ | refine l_nsplit rfl rfl ?_ ?_ | refine q_nsplit rfl rfl ?_ ?_) <;> intro _ <;> try (exfalso; omega)) | (refine l_st (k_call1 evs_auto H ca_Im6 rfl ?_); clear H; intro _ _ H) | (refine l_st (k_callg1 evs_auto rfl rfl rfl H ca_Im6 rfl ?_); clear H; intro _ _ H) | refine kq_call1 evs_auto H (fun _ H => ca_Im6) rfl ?_ | refine kq_callg1 evs_auto rfl rfl rfl H (fun _ H => ca_Im6) rfl ?_)
    all_goals first
    | ((refine ret2 (v := .int _ _) (v' := .int _ _) H rfl rfl rfl rfl ?_); first | (rw [hst, if_pos (by omega)]) | (rw [hst, if_neg (by omega), if_pos (by omega)]))
    | exact lk_n rfl (n' := a.length - (i + 1)) (by omega) ⟨i + 1, _, _, rfl, by omega, by omega, rfl, by rw [hst, if_neg (by omega), if_neg (by omega)], H⟩
  · have hend := ancGo_end (p := (x, y)) (a := a) (b := b) (i := i) (by omega)
    rw [hg] at hend
    repeat' (first | (apply l_rd; exact rd_go; rfl) | (apply q_rd; exact rd_go; rfl) | refine stp ?_ | refine bk_o rfl ?_ | refine c_true ⟨rfl, rfl⟩ ?_ | refine c_false ⟨rfl, rfl⟩ ?_ | (apply l_rdg; rfl; rfl; rfl; exact rd_go; rfl) | refine l_skip rfl rfl rfl rfl ?_ | (apply q_rdg; rfl; rfl; rfl; exact rd_go; rfl) | refine q_skip rfl rfl rfl rfl ?_ | refine c_draw H (by kernel_rfl) ?_ | (refine q_end ?_; clear H; intro _ H) | ((first | refine l_st (z_box H ?_) | refine l_st (s_alloc H rfl ?_)); clear H; intro _ _ _ H) | (refine l_st (t_build0 H rfl ?_); clear H; intro _ _ _ _ H) | (refine l_st (z_sto H ?_); clear H; intro _ H) | ((first | refine c_cond ⟨rfl, rfl⟩ ?_ ?_ | refine c_ncond ⟨rfl, rfl⟩ ?_ ?_ | refine l_split rfl rfl ?_ ?_ | refine q_split rfl rfl ?_ ?_ | refine l_nsplit rfl rfl ?_ ?_ | refine q_nsplit rfl rfl ?_ ?_) <;> intro _ <;> try (exfalso; omega)) | (refine l_st (k_call1 evs_auto H ca_Im6 rfl ?_); clear H; intro _ _ H) | (refine l_st (k_callg1 evs_auto rfl rfl rfl H ca_Im6 rfl ?_); clear H; intro _ _ H) | refine kq_call1 evs_auto H (fun _ H => ca_Im6) rfl ?_ | refine kq_callg1 evs_auto rfl rfl rfl H (fun _ H => ca_Im6) rfl ?_)
    all_goals ((refine ret2 (v := .int _ _) (v' := .int _ _) H rfl rfl rfl rfl ?_); rw [hend])
theorem rAnc_any (M : Nat → Prop) (a b : List Span) (A B : Option Addr) (c d : Nat) (w : World) (hF : Stab w M (Row kSpan 3 A a)) (hF' : Stab w M (Row kSpan 3 B b)) :
    Ret Tryd.prog 54 [.slice A a.length c, .slice B b.length d] w fun v _ => v = .tuple #[.int .i64 (anc a b).1, .int .i64 (anc a b).2] := by
  have hla := hF.now.len
  have hlb := hF'.now.len
  refine enter (M := M) (F := [Row kSpan 3 A a, Row kSpan 3 B b]) Tryd.func54 rfl rfl rfl (by simpa using ⟨hF, hF'⟩) fun H => ?_
  repeat' (first | (apply l_rd; exact rd_go; rfl) | (apply q_rd; exact rd_go; rfl) | refine stp ?_ | refine bk_o rfl ?_ | refine c_true ⟨rfl, rfl⟩ ?_ | refine c_false ⟨rfl, rfl⟩ ?_ | (apply l_rdg; rfl; rfl; rfl; exact rd_go; rfl) | refine l_skip rfl rfl rfl rfl ?_ | (apply q_rdg; rfl; rfl; rfl; exact rd_go; rfl) | refine q_skip rfl rfl rfl rfl ?_ | refine c_draw H (by kernel_rfl) ?_ | (refine q_end ?_; clear H; intro _ H) | ((first | refine l_st (z_box H ?_) | refine l_st (s_alloc H rfl ?_)); clear H; intro _ _ _ H) | (refine l_st (t_build0 H rfl ?_); clear H; intro _ _ _ _ H) | (refine l_st (z_sto H ?_); clear H; intro _ H) | ((first | refine c_cond ⟨rfl, rfl⟩ ?_ ?_ | refine c_ncond ⟨rfl, rfl⟩ ?_ ?_ | refine l_split rfl rfl ?_ ?_ | refine q_split rfl rfl ?_ ?_ | refine l_nsplit rfl rfl ?_ ?_ | refine q_nsplit rfl rfl ?_ ?_) <;> intro _ <;> try (exfalso; omega)) | (refine l_st (k_call1 evs_auto H ca_Im6 rfl ?_); clear H; intro _ _ H) | (refine l_st (k_callg1 evs_auto rfl rfl rfl H ca_Im6 rfl ?_); clear H; intro _ _ H) | refine kq_call1 evs_auto H (fun _ H => ca_Im6) rfl ?_ | refine kq_callg1 evs_auto rfl rfl rfl H (fun _ H => ca_Im6) rfl ?_)
  · have h : ¬ linOk a = true := by assumption
    (refine ret2 (v := .int _ _) (v' := .int _ _) H rfl rfl rfl rfl ?_); unfold anc; rw [if_pos (.inl (by simpa using h))]
  · have h : ¬ linOk b = true := by assumption
    (refine ret2 (v := .int _ _) (v' := .int _ _) H rfl rfl rfl rfl ?_); unfold anc; rw [if_pos (.inr (by simpa using h))]
  have h1 : linOk a = true := by assumption
  have h2 : linOk b = true := by assumption
  have hanc : anc a b = ancGo (0, 0) a b := by unfold anc; rw [if_neg (by simp [h1, h2])]
  refine c_loopk [8, 6, 7] [0, 1] (fun n vs w' => ∃ (i : Nat) (x y : Int), vs = [.int .i64 i, .int .i64 x, .int .i64 y] ∧ i ≤ a.length ∧ i ≤ b.length ∧ n = a.length - i ∧ ancGo (x, y) (a.drop i) (b.drop i) = anc a b ∧
      Hp w M w' [] [] [Row kSpan 3 A a, Row kSpan 3 B b]) _ [_, _] rfl ⟨0, 0, 0, rfl, Nat.zero_le _, Nat.zero_le _, rfl, hanc.symm, H⟩ ?_
  clear H
  rintro n _ E0 w2 ⟨i, x, y, rfl, hi, hi1, rfl, hg, H⟩
  by_cases hlt : i < a.length ∧ i < b.length
  · obtain ⟨q1, q2⟩ := hlt
    have hst := ancGo_step (p := (x, y)) q1 q2
    rw [hg] at hst
    repeat' (first | (apply l_rd; exact rd_go; rfl) | (apply q_rd; exact rd_go; rfl) | refine stp ?_ | refine bk_o rfl ?_ | refine c_true ⟨rfl, rfl⟩ ?_ | refine c_false ⟨rfl, rfl⟩ ?_ | (apply l_rdg; rfl; rfl; rfl; exact rd_go; rfl) | refine l_skip rfl rfl rfl rfl ?_ | (apply q_rdg; rfl; rfl; rfl; exact rd_go; rfl) | refine q_skip rfl rfl rfl rfl ?_ | refine c_draw H (by kernel_rfl) ?_ | (refine q_end ?_; clear H; intro _ H) | ((first | refine l_st (z_box H ?_) | refine l_st (s_alloc H rfl ?_)); clear H; intro _ _ _ H) | (refine l_st (t_build0 H rfl ?_); clear H; intro _ _ _ _ H) | (refine l_st (z_sto H ?_); clear H; intro _ H) | ((first | refine c_cond ⟨rfl, rfl⟩ ?_ ?_ | refine c_ncond ⟨rfl, rfl⟩ ?_ ?_ | refine l_split rfl rfl ?_ ?_ | refine q_split rfl rfl ?_ ?_ | refine l_nsplit rfl rfl ?_ ?_ | refine q_nsplit rfl rfl ?_ ?_) <;> intro _ <;> try (exfalso; omega)) | (refine l_st (k_call1 evs_auto H ca_Im6 rfl ?_); clear H; intro _ _ H) | (refine l_st (k_callg1 evs_auto rfl rfl rfl H ca_Im6 rfl ?_); clear H; intro _ _ H) | refine kq_call1 evs_auto H (fun _ H => ca_Im6) rfl ?_ | refine kq_callg1 evs_auto rfl rfl rfl H (fun _ H => ca_Im6) rfl ?_)
    all_goals first
    | ((refine ret2 (v := .int _ _) (v' := .int _ _) H rfl rfl rfl rfl ?_); first | (rw [hst, if_pos (by omega)]) | (rw [hst, if_neg (by omega), if_pos (by omega)]))
    | exact lk_n rfl (n' := a.length - (i + 1)) (by omega) ⟨i + 1, _, _, rfl, by omega, by omega, rfl, by rw [hst, if_neg (by omega), if_neg (by omega)], H⟩
  · have hend := ancGo_end (p := (x, y)) (a := a) (b := b) (i := i) (by omega)
    rw [hg] at hend
    repeat' (first | (apply l_rd; exact rd_go; rfl) | (apply q_rd; exact rd_go; rfl) | refine stp ?_ | refine bk_o rfl ?_ | refine c_true ⟨rfl, rfl⟩ ?_ | refine c_false ⟨rfl, rfl⟩ ?_ | (apply l_rdg; rfl; rfl; rfl; exact rd_go; rfl) | refine l_skip rfl rfl rfl rfl ?_ | (apply q_rdg; rfl; rfl; rfl; exact rd_go; rfl) | refine q_skip rfl rfl rfl rfl ?_ | refine c_draw H (by kernel_rfl) ?_ | (refine q_end ?_; clear H; intro _ H) | ((first | refine l_st (z_box H ?_) | refine l_st (s_alloc H rfl ?_)); clear H; intro _ _ _ H) | (refine l_st (t_build0 H rfl ?_); clear H; intro _ _ _ _ H) | (refine l_st (z_sto H ?_); clear H; intro _ H) | ((first | refine c_cond ⟨rfl, rfl⟩ ?_ ?_ | refine c_ncond ⟨rfl, rfl⟩ ?_ ?_ | refine l_split rfl rfl ?_ ?_ | refine q_split rfl rfl ?_ ?_ | refine l_nsplit rfl rfl ?_ ?_ | refine q_nsplit rfl rfl ?_ ?_) <;> intro _ <;> try (exfalso; omega)) | (refine l_st (k_call1 evs_auto H ca_Im6 rfl ?_); clear H; intro _ _ H) | (refine l_st (k_callg1 evs_auto rfl rfl rfl H ca_Im6 rfl ?_); clear H; intro _ _ H) | refine kq_call1 evs_auto H (fun _ H => ca_Im6) rfl ?_ | refine kq_callg1 evs_auto rfl rfl rfl H (fun _ H => ca_Im6) rfl ?_)
    all_goals ((refine ret2 (v := .int _ _) (v' := .int _ _) H rfl rfl rfl rfl ?_); rw [hend])
def fewIm (im : List (List Sec)) : Prop := im.length ≤ 9 ∧ ∀ v ∈ im, v.length ≤ 24
instance (im : List (List Sec)) : Decidable (fewIm im) := inferInstanceAs (Decidable (_ ∧ _))
theorem rFew_any (M : Nat → Prop) (im : List (List Sec)) (A : Option Addr) (c : Nat) (w : World) (hF : Stab w M (Row kVol 1 A im)) :
    Ret Tryd.prog 37 [.slice A im.length c] w fun v _ => v = .bool (decide (fewIm im)) := by
  have hla := hF.now.len
  refine enter (M := M) (F := [Row kVol 1 A im]) Tryd.func37 rfl rfl rfl (by simpa using hF) fun H => ?_
  repeat' (first | (apply l_rd; exact rd_go; rfl) | (apply q_rd; exact rd_go; rfl) | refine stp ?_ | refine bk_o rfl ?_ | refine c_true ⟨rfl, rfl⟩ ?_ | refine c_false ⟨rfl, rfl⟩ ?_ | (apply l_rdg; rfl; rfl; rfl; exact rd_go; rfl) | refine l_skip rfl rfl rfl rfl ?_ | (apply q_rdg; rfl; rfl; rfl; exact rd_go; rfl) | refine q_skip rfl rfl rfl rfl ?_ | refine c_draw H (by kernel_rfl) ?_ | (refine q_end ?_; clear H; intro _ H) | ((first | refine l_st (z_box H ?_) | refine l_st (s_alloc H rfl ?_)); clear H; intro _ _ _ H) | (refine l_st (t_build0 H rfl ?_); clear H; intro _ _ _ _ H) | (refine l_st (z_sto H ?_); clear H; intro _ H) | ((first | refine c_cond ⟨rfl, rfl⟩ ?_ ?_ | refine c_ncond ⟨rfl, rfl⟩ ?_ ?_ | refine l_split rfl rfl ?_ ?_ | refine q_split rfl rfl ?_ ?_ | refine l_nsplit rfl rfl ?_ ?_ | refine q_nsplit rfl rfl ?_ ?_) <;> intro _ <;> try (exfalso; omega)) | (refine l_st (k_call1 evs_auto H ca_Im6 rfl ?_); clear H; intro _ _ H) | (refine l_st (k_callg1 evs_auto rfl rfl rfl H ca_Im6 rfl ?_); clear H; intro _ _ H) | refine kq_call1 evs_auto H (fun _ H => ca_Im6) rfl ?_ | refine kq_callg1 evs_auto rfl rfl rfl H (fun _ H => ca_Im6) rfl ?_)
  · refine ret1 H rfl rfl rfl ?_; refine bv ?_; rw [decide_eq_false]; unfold fewIm; omega
  refine c_loopk [3] [0] (fun n vs w' => ∃ i : Nat, vs = [.int .i64 i] ∧ i ≤ im.length ∧ n = im.length - i ∧ (∀ j (hj : j < im.length), j < i → im[j].length ≤ 24) ∧ Hp w M w' [] [] [Row kVol 1 A im]) _ [_] rfl ⟨0, rfl, Nat.zero_le _, rfl, fun j _ hj => by omega, H⟩ ?_
  clear H
  rintro n _ E0 w2 ⟨i, rfl, hi, rfl, ht, H⟩
  by_cases hi' : i < im.length
  · obtain ⟨A4, c4, _, _, H1⟩ := H.openS (A := A) (xs := im) mem_auto hi'
    clear H; have H := H1; clear H1
    repeat' (first | (apply l_rd; exact rd_go; rfl) | (apply q_rd; exact rd_go; rfl) | refine stp ?_ | refine bk_o rfl ?_ | refine c_true ⟨rfl, rfl⟩ ?_ | refine c_false ⟨rfl, rfl⟩ ?_ | (apply l_rdg; rfl; rfl; rfl; exact rd_go; rfl) | refine l_skip rfl rfl rfl rfl ?_ | (apply q_rdg; rfl; rfl; rfl; exact rd_go; rfl) | refine q_skip rfl rfl rfl rfl ?_ | refine c_draw H (by kernel_rfl) ?_ | (refine q_end ?_; clear H; intro _ H) | ((first | refine l_st (z_box H ?_) | refine l_st (s_alloc H rfl ?_)); clear H; intro _ _ _ H) | (refine l_st (t_build0 H rfl ?_); clear H; intro _ _ _ _ H) | (refine l_st (z_sto H ?_); clear H; intro _ H) | ((first | refine c_cond ⟨rfl, rfl⟩ ?_ ?_ | refine c_ncond ⟨rfl, rfl⟩ ?_ ?_ | refine l_split rfl rfl ?_ ?_ | refine q_split rfl rfl ?_ ?_ | refine l_nsplit rfl rfl ?_ ?_ | refine q_nsplit rfl rfl ?_ ?_) <;> intro _ <;> try (exfalso; omega)) | (refine l_st (k_call1 evs_auto H ca_Im6 rfl ?_); clear H; intro _ _ H) | (refine l_st (k_callg1 evs_auto rfl rfl rfl H ca_Im6 rfl ?_); clear H; intro _ _ H) | refine kq_call1 evs_auto H (fun _ H => ca_Im6) rfl ?_ | refine kq_callg1 evs_auto rfl rfl rfl H (fun _ H => ca_Im6) rfl ?_)
    · refine ret1 H rfl rfl rfl ?_; refine bv ?_; rw [decide_eq_false]
      intro h; have := h.2 _ (List.getElem_mem hi'); omega
    · exact lk_n rfl (n' := im.length - (i + 1)) (by omega) ⟨i + 1, rfl, hi', rfl, fun j hj hji => by rcases Nat.lt_succ_iff_lt_or_eq.1 hji with h | rfl; exact ht j hj h; omega, H.weak (List.Sublist.refl _) (List.Sublist.refl _) (by simp)⟩
  · repeat' (first | (apply l_rd; exact rd_go; rfl) | (apply q_rd; exact rd_go; rfl) | refine stp ?_ | refine bk_o rfl ?_ | refine c_true ⟨rfl, rfl⟩ ?_ | refine c_false ⟨rfl, rfl⟩ ?_ | (apply l_rdg; rfl; rfl; rfl; exact rd_go; rfl) | refine l_skip rfl rfl rfl rfl ?_ | (apply q_rdg; rfl; rfl; rfl; exact rd_go; rfl) | refine q_skip rfl rfl rfl rfl ?_ | refine c_draw H (by kernel_rfl) ?_ | (refine q_end ?_; clear H; intro _ H) | ((first | refine l_st (z_box H ?_) | refine l_st (s_alloc H rfl ?_)); clear H; intro _ _ _ H) | (refine l_st (t_build0 H rfl ?_); clear H; intro _ _ _ _ H) | (refine l_st (z_sto H ?_); clear H; intro _ H) | ((first | refine c_cond ⟨rfl, rfl⟩ ?_ ?_ | refine c_ncond ⟨rfl, rfl⟩ ?_ ?_ | refine l_split rfl rfl ?_ ?_ | refine q_split rfl rfl ?_ ?_ | refine l_nsplit rfl rfl ?_ ?_ | refine q_nsplit rfl rfl ?_ ?_) <;> intro _ <;> try (exfalso; omega)) | (refine l_st (k_call1 evs_auto H ca_Im6 rfl ?_); clear H; intro _ _ H) | (refine l_st (k_callg1 evs_auto rfl rfl rfl H ca_Im6 rfl ?_); clear H; intro _ _ H) | refine kq_call1 evs_auto H (fun _ H => ca_Im6) rfl ?_ | refine kq_callg1 evs_auto rfl rfl rfl H (fun _ H => ca_Im6) rfl ?_)
    refine ret1 H rfl rfl rfl ?_; refine bv ?_; rw [decide_eq_true]
    exact ⟨by omega, fun v hv => by obtain ⟨j, hj, rfl⟩ := List.mem_iff_getElem.1 hv; exact ht j hj (by omega)⟩
def fewPt (p : Pt) : Prop := (∀ b ∈ p.dirty.take 10, b.words.length ≤ 8) ∧ p.lin.length ≤ 20 ∧ p.dirty.length ≤ 10 ∧ fewIm p.im
instance (p : Pt) : Decidable (fewPt p) := inferInstanceAs (Decidable (_ ∧ _ ∧ _ ∧ _))
theorem rFewPt_any (M : Nat → Prop) (p : Pt) (A1 A2 A3 : Option Addr) (c1 c2 c3 : Nat) (w : World) (hs : rng .i64 p.site)
    (h1 : Stab w M (Row kSpan 3 A1 p.lin)) (h2 : Stab w M (Row kBm 2 A2 p.dirty)) (h3 : Stab w M (Row kVol 1 A3 p.im)) :
    Ret Tryd.prog 10 [.agg [.int .i64 p.site, .slice A1 p.lin.length c1, .slice A2 p.dirty.length c2, .slice A3 p.im.length c3].toArray] w fun v _ => v = .bool (decide (fewPt p)) := by
  have hl2 := h2.now.len
  refine enter (M := M) (F := [Row kSpan 3 A1 p.lin, Row kBm 2 A2 p.dirty, Row kVol 1 A3 p.im]) Tryd.func10 rfl rfl rfl (by simpa using ⟨h1, h2, h3⟩) fun H => ?_
  repeat' (first | (apply l_rd; exact rd_go; rfl) | (apply q_rd; exact rd_go; rfl) | refine stp ?_ | refine bk_o rfl ?_ | refine c_true ⟨rfl, rfl⟩ ?_ | refine c_false ⟨rfl, rfl⟩ ?_ | (apply l_rdg; rfl; rfl; rfl; exact rd_go; rfl) | refine l_skip rfl rfl rfl rfl ?_ | (apply q_rdg; rfl; rfl; rfl; exact rd_go; rfl) | refine q_skip rfl rfl rfl rfl ?_ | refine c_draw H (by kernel_rfl) ?_ | (refine q_end ?_; clear H; intro _ H) | ((first | refine l_st (z_box H ?_) | refine l_st (s_alloc H rfl ?_)); clear H; intro _ _ _ H) | (refine l_st (t_build0 H rfl ?_); clear H; intro _ _ _ _ H) | (refine l_st (z_sto H ?_); clear H; intro _ H) | ((first | refine c_cond ⟨rfl, rfl⟩ ?_ ?_ | refine c_ncond ⟨rfl, rfl⟩ ?_ ?_ | refine l_split rfl rfl ?_ ?_ | refine q_split rfl rfl ?_ ?_ | refine l_nsplit rfl rfl ?_ ?_ | refine q_nsplit rfl rfl ?_ ?_) <;> intro _ <;> try (exfalso; omega)) | (refine l_st (k_call1 evs_auto H ca_Im6 rfl ?_); clear H; intro _ _ H) | (refine l_st (k_callg1 evs_auto rfl rfl rfl H ca_Im6 rfl ?_); clear H; intro _ _ H) | refine kq_call1 evs_auto H (fun _ H => ca_Im6) rfl ?_ | refine kq_callg1 evs_auto rfl rfl rfl H (fun _ H => ca_Im6) rfl ?_)
  refine c_loopk [3] [1] (fun n vs w' => ∃ i : Nat, vs = [.int .i64 i] ∧ i ≤ p.dirty.length ∧ i ≤ 10 ∧ n = p.dirty.length - i ∧ (∀ j (hj : j < p.dirty.length), j < i → p.dirty[j].words.length ≤ 8) ∧
      Hp w M w' [⟨_, [.int .i64 p.site, .slice A1 p.lin.length c1, .slice A2 p.dirty.length c2, .slice A3 p.im.length c3], _⟩] [] [Row kSpan 3 A1 p.lin, Row kBm 2 A2 p.dirty, Row kVol 1 A3 p.im]) _ [_] rfl ⟨0, rfl, Nat.zero_le _, by omega, rfl, fun j _ hj => by omega, H⟩ ?_
  clear H
  rintro n _ E0 w2 ⟨i, rfl, hi, hi10, rfl, ht, H⟩
  by_cases hi' : i < p.dirty.length ∧ i < 10
  · obtain ⟨hi', h10⟩ := hi'
    obtain ⟨A4, c4, hs4, _, _, H1⟩ := H.openBm mem_auto hi'
    clear H; have H := H1; clear H1
    repeat' (first | (apply l_rd; exact rd_go; rfl) | (apply q_rd; exact rd_go; rfl) | refine stp ?_ | refine bk_o rfl ?_ | refine c_true ⟨rfl, rfl⟩ ?_ | refine c_false ⟨rfl, rfl⟩ ?_ | (apply l_rdg; rfl; rfl; rfl; exact rd_go; rfl) | refine l_skip rfl rfl rfl rfl ?_ | (apply q_rdg; rfl; rfl; rfl; exact rd_go; rfl) | refine q_skip rfl rfl rfl rfl ?_ | refine c_draw H (by kernel_rfl) ?_ | (refine q_end ?_; clear H; intro _ H) | ((first | refine l_st (z_box H ?_) | refine l_st (s_alloc H rfl ?_)); clear H; intro _ _ _ H) | (refine l_st (t_build0 H rfl ?_); clear H; intro _ _ _ _ H) | (refine l_st (z_sto H ?_); clear H; intro _ H) | ((first | refine c_cond ⟨rfl, rfl⟩ ?_ ?_ | refine c_ncond ⟨rfl, rfl⟩ ?_ ?_ | refine l_split rfl rfl ?_ ?_ | refine q_split rfl rfl ?_ ?_ | refine l_nsplit rfl rfl ?_ ?_ | refine q_nsplit rfl rfl ?_ ?_) <;> intro _ <;> try (exfalso; omega)) | (refine l_st (k_call1 evs_auto H ca_Im6 rfl ?_); clear H; intro _ _ H) | (refine l_st (k_callg1 evs_auto rfl rfl rfl H ca_Im6 rfl ?_); clear H; intro _ _ H) | refine kq_call1 evs_auto H (fun _ H => ca_Im6) rfl ?_ | refine kq_callg1 evs_auto rfl rfl rfl H (fun _ H => ca_Im6) rfl ?_)
    · refine ret1 H rfl rfl rfl ?_; refine bv ?_; rw [decide_eq_false]
      intro h
      have h5 : i < (p.dirty.take 10).length := by rw [List.length_take]; omega
      have := h.1 (p.dirty.take 10)[i] (List.getElem_mem _)
      rw [List.getElem_take] at this; omega
    · exact lk_n rfl (n' := p.dirty.length - (i + 1)) (by omega) ⟨i + 1, rfl, hi', by omega, rfl, fun j hj hji => by rcases Nat.lt_succ_iff_lt_or_eq.1 hji with h | rfl; exact ht j hj h; omega, H.weak (List.Sublist.refl _) (List.Sublist.refl _) (by simp)⟩
  · have hw : ∀ b ∈ p.dirty.take 10, b.words.length ≤ 8 := fun b hb => by
      obtain ⟨j, hj, rfl⟩ := List.mem_iff_getElem.1 hb
      rw [List.length_take] at hj
      rw [List.getElem_take]; exact ht j (by omega) (by omega)
    repeat' (first | (apply l_rd; exact rd_go; rfl) | (apply q_rd; exact rd_go; rfl) | refine stp ?_ | refine bk_o rfl ?_ | refine c_true ⟨rfl, rfl⟩ ?_ | refine c_false ⟨rfl, rfl⟩ ?_ | (apply l_rdg; rfl; rfl; rfl; exact rd_go; rfl) | refine l_skip rfl rfl rfl rfl ?_ | (apply q_rdg; rfl; rfl; rfl; exact rd_go; rfl) | refine q_skip rfl rfl rfl rfl ?_ | refine c_draw H (by kernel_rfl) ?_ | (refine q_end ?_; clear H; intro _ H) | ((first | refine l_st (z_box H ?_) | refine l_st (s_alloc H rfl ?_)); clear H; intro _ _ _ H) | (refine l_st (t_build0 H rfl ?_); clear H; intro _ _ _ _ H) | (refine l_st (z_sto H ?_); clear H; intro _ H) | ((first | refine c_cond ⟨rfl, rfl⟩ ?_ ?_ | refine c_ncond ⟨rfl, rfl⟩ ?_ ?_ | refine l_split rfl rfl ?_ ?_ | refine q_split rfl rfl ?_ ?_ | refine l_nsplit rfl rfl ?_ ?_ | refine q_nsplit rfl rfl ?_ ?_) <;> intro _ <;> try (exfalso; omega)) | (refine l_st (k_call1 evs_auto H ca_Im6 rfl ?_); clear H; intro _ _ H) | (refine l_st (k_callg1 evs_auto rfl rfl rfl H ca_Im6 rfl ?_); clear H; intro _ _ H) | refine kq_call1 evs_auto H (fun _ H => ca_Im6) rfl ?_ | refine kq_callg1 evs_auto rfl rfl rfl H (fun _ H => ca_Im6) rfl ?_)
    all_goals (refine ret1 H rfl rfl rfl ?_; refine bv ?_; first | (rw [decide_eq_false]; unfold fewPt; omega) | (rw [decide_eq_decide]; unfold fewPt; exact ⟨fun h => ⟨hw, by omega, by omega, h⟩, fun h => h.2.2.2⟩))
theorem sameExtss_any (M : Nat → Prop) (xs ys : List (List Ext)) (A B : Option Addr) (c d : Nat) (w : World) (hF : Stab w M (Row (kSl 2 kExt) 1 A xs)) (hF' : Stab w M (Row (kSl 2 kExt) 1 B ys)) :
    Ret Tryd.prog 16 [.slice A xs.length c, .slice B ys.length d] w fun v _ => v = .bool (decide (xs = ys)) := by
  have hl := hF.now.len
  refine enter (M := M) (F := [Row (kSl 2 kExt) 1 A xs, Row (kSl 2 kExt) 1 B ys]) Tryd.func16 rfl rfl rfl (by simpa using ⟨hF, hF'⟩) fun H => ?_
  repeat' (first | (apply l_rd; exact rd_go; rfl) | (apply q_rd; exact rd_go; rfl) | refine stp ?_ | refine bk_o rfl ?_ | refine c_true ⟨rfl, rfl⟩ ?_ | refine c_false ⟨rfl, rfl⟩ ?_ | (apply l_rdg; rfl; rfl; rfl; exact rd_go; rfl) | refine l_skip rfl rfl rfl rfl ?_ | (apply q_rdg; rfl; rfl; rfl; exact rd_go; rfl) | refine q_skip rfl rfl rfl rfl ?_ | refine c_draw H (by kernel_rfl) ?_ | (refine q_end ?_; clear H; intro _ H) | ((first | refine l_st (z_box H ?_) | refine l_st (s_alloc H rfl ?_)); clear H; intro _ _ _ H) | (refine l_st (t_build0 H rfl ?_); clear H; intro _ _ _ _ H) | (refine l_st (z_sto H ?_); clear H; intro _ H) | ((first | refine c_cond ⟨rfl, rfl⟩ ?_ ?_ | refine c_ncond ⟨rfl, rfl⟩ ?_ ?_ | refine l_split rfl rfl ?_ ?_ | refine q_split rfl rfl ?_ ?_ | refine l_nsplit rfl rfl ?_ ?_ | refine q_nsplit rfl rfl ?_ ?_) <;> intro _ <;> try (exfalso; omega)) | (refine l_st (k_call1 evs_auto H ca_Im6 rfl ?_); clear H; intro _ _ H) | (refine l_st (k_callg1 evs_auto rfl rfl rfl H ca_Im6 rfl ?_); clear H; intro _ _ H) | refine kq_call1 evs_auto H (fun _ H => ca_Im6) rfl ?_ | refine kq_callg1 evs_auto rfl rfl rfl H (fun _ H => ca_Im6) rfl ?_)
  · refine ret1 H rfl rfl rfl ?_
    refine bv ?_
    have : ¬ xs = ys := fun e => by subst e; contradiction
    simp [this]
  have hlen : xs.length = ys.length := by omega
  refine c_loopk [5] [0, 1] (fun n vs w' => ∃ i : Nat, vs = [.int .i64 i] ∧ i ≤ xs.length ∧ n = xs.length - i ∧ xs.take i = ys.take i ∧ Hp w M w' [] [] [Row (kSl 2 kExt) 1 A xs, Row (kSl 2 kExt) 1 B ys]) _ [_, _] rfl ⟨0, rfl, Nat.zero_le _, rfl, rfl, H⟩ ?_
  clear H
  rintro n _ E0 w2 ⟨i, rfl, hi, rfl, ht, H⟩
  by_cases hi' : i < xs.length
  · obtain ⟨A4, c4, _, _, H1⟩ := H.openS (A := A) (xs := xs) mem_auto hi'
    obtain ⟨A5, c5, _, _, H2⟩ := H1.openS (A := B) (xs := ys) (i := i) mem_auto (by omega)
    clear H H1; have H := H2; clear H2
    repeat' (first | (apply l_rd; exact rd_go; rfl) | (apply q_rd; exact rd_go; rfl) | refine stp ?_ | refine bk_o rfl ?_ | refine c_true ⟨rfl, rfl⟩ ?_ | refine c_false ⟨rfl, rfl⟩ ?_ | (apply l_rdg; rfl; rfl; rfl; exact rd_go; rfl) | refine l_skip rfl rfl rfl rfl ?_ | (apply q_rdg; rfl; rfl; rfl; exact rd_go; rfl) | refine q_skip rfl rfl rfl rfl ?_ | refine c_draw H (by kernel_rfl) ?_ | (refine q_end ?_; clear H; intro _ H) | ((first | refine l_st (z_box H ?_) | refine l_st (s_alloc H rfl ?_)); clear H; intro _ _ _ H) | (refine l_st (t_build0 H rfl ?_); clear H; intro _ _ _ _ H) | (refine l_st (z_sto H ?_); clear H; intro _ H) | ((first | refine c_cond ⟨rfl, rfl⟩ ?_ ?_ | refine c_ncond ⟨rfl, rfl⟩ ?_ ?_ | refine l_split rfl rfl ?_ ?_ | refine q_split rfl rfl ?_ ?_ | refine l_nsplit rfl rfl ?_ ?_ | refine q_nsplit rfl rfl ?_ ?_) <;> intro _ <;> try (exfalso; omega)) | (refine l_st (k_call1 evs_auto H ca_Im6 rfl ?_); clear H; intro _ _ H) | (refine l_st (k_callg1 evs_auto rfl rfl rfl H ca_Im6 rfl ?_); clear H; intro _ _ H) | refine kq_call1 evs_auto H (fun _ H => ca_Im6) rfl ?_ | refine kq_callg1 evs_auto rfl rfl rfl H (fun _ H => ca_Im6) rfl ?_)
    · refine ret1 H rfl rfl rfl ?_
      refine bv ?_
      have : ¬ xs = ys := fun e => by subst e; simp at *
      simp [this]
    · exact lk_n rfl (n' := xs.length - (i + 1)) (by omega) ⟨i + 1, rfl, by omega, rfl, take_step (by omega) (by omega) ht (by assumption), H.weak (List.Sublist.refl _) (List.Sublist.refl _) (by simp)⟩
  · repeat' (first | (apply l_rd; exact rd_go; rfl) | (apply q_rd; exact rd_go; rfl) | refine stp ?_ | refine bk_o rfl ?_ | refine c_true ⟨rfl, rfl⟩ ?_ | refine c_false ⟨rfl, rfl⟩ ?_ | (apply l_rdg; rfl; rfl; rfl; exact rd_go; rfl) | refine l_skip rfl rfl rfl rfl ?_ | (apply q_rdg; rfl; rfl; rfl; exact rd_go; rfl) | refine q_skip rfl rfl rfl rfl ?_ | refine c_draw H (by kernel_rfl) ?_ | (refine q_end ?_; clear H; intro _ H) | ((first | refine l_st (z_box H ?_) | refine l_st (s_alloc H rfl ?_)); clear H; intro _ _ _ H) | (refine l_st (t_build0 H rfl ?_); clear H; intro _ _ _ _ H) | (refine l_st (z_sto H ?_); clear H; intro _ H) | ((first | refine c_cond ⟨rfl, rfl⟩ ?_ ?_ | refine c_ncond ⟨rfl, rfl⟩ ?_ ?_ | refine l_split rfl rfl ?_ ?_ | refine q_split rfl rfl ?_ ?_ | refine l_nsplit rfl rfl ?_ ?_ | refine q_nsplit rfl rfl ?_ ?_) <;> intro _ <;> try (exfalso; omega)) | (refine l_st (k_call1 evs_auto H ca_Im6 rfl ?_); clear H; intro _ _ H) | (refine l_st (k_callg1 evs_auto rfl rfl rfl H ca_Im6 rfl ?_); clear H; intro _ _ H) | refine kq_call1 evs_auto H (fun _ H => ca_Im6) rfl ?_ | refine kq_callg1 evs_auto rfl rfl rfl H (fun _ H => ca_Im6) rfl ?_)
    refine ret1 H rfl rfl rfl ?_
    refine bv ?_
    have hi2 : i = xs.length := by omega
    subst hi2
    simp [take_all hlen ht]
end Go.Proofs.YtiolpldihoghiaaDoor

namespace Go.Proofs.YtiolpldihoghiaaDoor
open Go.RowKit
set_option linter.unusedVariables false
set_option linter.unusedSimpArgs false
set_option maxHeartbeats 4000000
theorem ca_Im7 {k : FuncId} {vs : List Value} {w1 : World} {v : Value} (h : Ret Tryd.prog k vs w1 (fun u _ => u = v) := by first | exact marked_any _ _ _ _ _ _ _ _ _ _ _ _ _ _ _ _ (by omega) (by omega) (H.fact _ mem_auto) (H.fact _ mem_auto) | exact rGet_any _ _ _ _ _ _ (by assumption) (H.fact _ mem_auto)) : Ret Tryd.prog k vs w1 (fun u _ => u = v) := h
def getB (b : Bm) (i : Int) : Prop := b.err = 0 ∧ 0 ≤ i ∧ i < b.size ∧ bitOf b.words i.toNat = true
instance (b : Bm) (i : Int) : Decidable (getB b i) := inferInstanceAs (Decidable (_ ∧ _ ∧ _ ∧ _))
theorem marked_any (M : Nat → Prop) (a b : List Bm) (A B : Option Addr) (c d : Nat) (u1 u2 u3 v1 v2 v3 : Value) (i : Nat) (k : Int) (w : World) (hi : i < a.length) (hi' : i < b.length) (hF : Stab w M (Row kBm 2 A a)) (hF' : Stab w M (Row kBm 2 B b)) :
    Ret Tryd.prog 137 [.agg [u1, u2, .slice A a.length c, u3].toArray, .agg [v1, v2, .slice B b.length d, v3].toArray, .int .i64 i, .int .i64 k] w fun v _ => v = .bool (decide (getB a[i] k ∨ getB b[i] k)) := by
  refine enter (M := M) (F := [Row kBm 2 A a, Row kBm 2 B b]) Tryd.func137 rfl rfl rfl (by simpa using ⟨hF, hF'⟩) fun H => ?_
  obtain ⟨A4, c4, hs4, _, _, H1⟩ := H.openBm mem_auto hi
  obtain ⟨A5, c5, hs5, _, _, H2⟩ := H1.openBm (A := B) (xs := b) mem_auto hi'
  clear H H1; have H := H2; clear H2
  repeat' (first | (apply l_rd; exact rd_go; rfl) | (apply q_rd; exact rd_go; rfl) | refine stp ?_ | refine bk_o rfl ?_ | refine c_true ⟨rfl, rfl⟩ ?_ | refine c_false ⟨rfl, rfl⟩ ?_ | (apply l_rdg; rfl; rfl; rfl; exact rd_go; rfl) | refine l_skip rfl rfl rfl rfl ?_ | (apply q_rdg; rfl; rfl; rfl; exact rd_go; rfl) | refine q_skip rfl rfl rfl rfl ?_ | refine c_draw H (by kernel_rfl) ?_ | (refine q_end ?_; clear H; intro _ H) | ((first | refine l_st (z_box H ?_) | refine l_st (s_alloc H rfl ?_)); clear H; intro _ _ _ H) | (refine l_st (t_build0 H rfl ?_); clear H; intro _ _ _ _ H) | (refine l_st (z_sto H ?_); clear H; intro _ H) | ((first | refine c_cond ⟨rfl, rfl⟩ ?_ ?_ | refine c_ncond ⟨rfl, rfl⟩ ?_ ?_ | refine l_split rfl rfl ?_ ?_ | refine q_split rfl rfl ?_ ?_ | refine l_nsplit rfl rfl ?_ ?_ | refine q_nsplit rfl rfl ?_ ?_) <;> intro _ <;> try (exfalso; omega)) | (refine l_st (k_call1 evs_auto H ca_Im7 rfl ?_); clear H; intro _ _ H) | (refine l_st (k_callg1 evs_auto rfl rfl rfl H ca_Im7 rfl ?_); clear H; intro _ _ H) | refine kq_call1 evs_auto H (fun _ H => ca_Im7) rfl ?_ | refine kq_callg1 evs_auto rfl rfl rfl H (fun _ H => ca_Im7) rfl ?_)
  · have h : getB a[i] k := by assumption
    refine ret1 H rfl rfl rfl ?_; refine bv ?_; simp [h]
  · have h : ¬ getB a[i] k := by assumption
    refine ret1 H rfl rfl rfl ?_; refine bv ?_
    show decide (getB b[i] k) = decide (getB a[i] k ∨ getB b[i] k)
    rw [decide_eq_decide]; exact ⟨.inr, fun h2 => h2.resolve_left h⟩
theorem rbetween_any (M : Nat → Prop) (w : World) (hM : ∀ b, M b → b < w.heap.size) (p q : Pt) (A2 A3 B2 B3 : Option Addr) (c2 c3 d2 d3 : Nat) (u1 u2 v1 v2 : Value) (hp : PtOk p) (hq : PtOk q) (hs : sizesOf p.im = sizesOf q.im)
    (h2 : Stab w M (Row kBm 2 A2 p.dirty)) (h3 : Stab w M (Row kVol 1 A3 p.im)) (k2 : Stab w M (Row kBm 2 B2 q.dirty)) :
    Ret Tryd.prog 101 [.agg [u1, u2, .slice A2 p.dirty.length c2, .slice A3 p.im.length c3].toArray, .agg [v1, v2, .slice B2 q.dirty.length d2, .slice B3 q.im.length d3].toArray] w
      fun v w' => ∃ v1 v2, v = .tuple #[v1, v2] ∧ Fresh (kSl 2 kExt) 68 1 M w (betw p q) v1 w' := by
  have hlen : p.im.length = q.im.length := by have := congrArg List.length hs; simpa only [sizesOf_len] using this
  obtain ⟨i1, i2, i3⟩ := hp.im
  have hpl := hp.len
  have hql := hq.len
  have hbl : (betw p q).length = p.im.length := by unfold betw; rw [List.length_zipWith]; omega
  refine enter (M := M) (F := [Row kBm 2 A2 p.dirty, Row kVol 1 A3 p.im, Row kBm 2 B2 q.dirty]) Tryd.func101 rfl rfl rfl (by simpa using ⟨h2, h3, k2⟩) fun H => ?_
  repeat' (first | (apply l_rd; exact rd_go; rfl) | (apply q_rd; exact rd_go; rfl) | refine stp ?_ | refine bk_o rfl ?_ | refine c_true ⟨rfl, rfl⟩ ?_ | refine c_false ⟨rfl, rfl⟩ ?_ | (apply l_rdg; rfl; rfl; rfl; exact rd_go; rfl) | refine l_skip rfl rfl rfl rfl ?_ | (apply q_rdg; rfl; rfl; rfl; exact rd_go; rfl) | refine q_skip rfl rfl rfl rfl ?_ | refine c_draw H (by kernel_rfl) ?_ | (refine q_end ?_; clear H; intro _ H) | ((first | refine l_st (z_box H ?_) | refine l_st (s_alloc H rfl ?_)); clear H; intro _ _ _ H) | (refine l_st (t_build0 H rfl ?_); clear H; intro _ _ _ _ H) | (refine l_st (z_sto H ?_); clear H; intro _ H) | ((first | refine c_cond ⟨rfl, rfl⟩ ?_ ?_ | refine c_ncond ⟨rfl, rfl⟩ ?_ ?_ | refine l_split rfl rfl ?_ ?_ | refine q_split rfl rfl ?_ ?_ | refine l_nsplit rfl rfl ?_ ?_ | refine q_nsplit rfl rfl ?_ ?_) <;> intro _ <;> try (exfalso; omega)) | (refine l_st (k_call1 evs_auto H ca_Im7 rfl ?_); clear H; intro _ _ H) | (refine l_st (k_callg1 evs_auto rfl rfl rfl H ca_Im7 rfl ?_); clear H; intro _ _ H) | refine kq_call1 evs_auto H (fun _ H => ca_Im7) rfl ?_ | refine kq_callg1 evs_auto rfl rfl rfl H (fun _ H => ca_Im7) rfl ?_)
  have H1 := (H.own_nil 68 1).add (f := Chunks (kSl 2 kExt) 1 ([] : List (List Ext)) []) (fun _ _ _ => Chunks.nil)
  refine c_loopk [8, 6, 7] [2, 3] (fun n vs w' => ∃ (i : Nat) (A' : Option Addr) (c' : Nat) (m : Int) (xs : List (List Ext)) (cs : List Value), vs = [.int .i64 i, .slice A' xs.length c', .int .i64 m] ∧ i ≤ p.im.length ∧ n = p.im.length - i ∧ 0 ≤ m ∧ m ≤ 4096 * i ∧ xs = (betw p q).take i ∧
      Hp w M w' [⟨_, [v1, v2, .slice B2 q.dirty.length d2, .slice B3 q.im.length d3], _⟩, ⟨_, [u1, u2, .slice A2 p.dirty.length c2, .slice A3 p.im.length c3], _⟩] [⟨.slice A' xs.length c', 68, 1, xs.length, cs⟩] [Chunks (kSl 2 kExt) 1 xs cs, Row kBm 2 A2 p.dirty, Row kVol 1 A3 p.im, Row kBm 2 B2 q.dirty]) _ [_, _] rfl
      ⟨0, none, 0, 0, [], [], rfl, Nat.zero_le _, rfl, by omega, by omega, rfl, H1⟩ ?_
  clear H H1
  rintro n _ E0 w2 ⟨i, A', c', m, xs, cs, rfl, hi, rfl, hm0, hm1, hxs, H⟩
  have hxl : xs.length = i := by rw [hxs, List.length_take]; omega
  by_cases hi' : i < p.im.length
  · obtain ⟨A4, c4, _, _, H1⟩ := H.openS (dd := kSec) (sz := 8) (A := A3) (xs := p.im) mem_auto hi'
    clear H; have H := H1; clear H1
    obtain ⟨s1, s2⟩ := i3 _ (List.getElem_mem hi')
    obtain ⟨x1, x2⟩ := hp.bm i (by omega) hi'
    obtain ⟨y1, y2⟩ := hq.bm i (by omega) (by omega)
    have hsz : (p.im[i].length : Int) = (q.im[i]'(by omega)).length := by
      have h1 := sizesOf_at hi' (by rw [sizesOf_len]; exact hi')
      have h2 := sizesOf_at (by omega : i < q.im.length) (by rw [sizesOf_len]; omega)
      rw [← h1, ← h2]; simp only [hs]
    have hb : (betw p q)[i]? = some (orExts (p.dirty[i]'(by omega)) (q.dirty[i]'(by omega))) := by
      unfold betw; rw [List.getElem?_zipWith, List.getElem?_eq_getElem (by omega), List.getElem?_eq_getElem (by omega)]
    rw [orExts_eq x1 y1 (by omega)] at hb
    generalize hf : (fun k => bitOf (p.dirty[i]'(by omega)).words k || bitOf (q.dirty[i]'(by omega)).words k) = f at hb
    have hfk : ∀ k : Nat, k < p.im[i].length → ((getB (p.dirty[i]'(by omega)) k ∨ getB (q.dirty[i]'(by omega)) k) ↔ f k = true) := fun k hk => by
      rw [← hf]; simp only [getB, Bool.or_eq_true, Int.toNat_natCast]
      constructor
      · rintro (h | h)
        · exact .inl h.2.2.2
        · exact .inr h.2.2.2
      · rintro (h | h)
        · exact .inl ⟨x1, by omega, by omega, h⟩
        · exact .inr ⟨y1, by omega, by omega, h⟩
    clear hf
    repeat' (first | (apply l_rd; exact rd_go; rfl) | (apply q_rd; exact rd_go; rfl) | refine stp ?_ | refine bk_o rfl ?_ | refine c_true ⟨rfl, rfl⟩ ?_ | refine c_false ⟨rfl, rfl⟩ ?_ | (apply l_rdg; rfl; rfl; rfl; exact rd_go; rfl) | refine l_skip rfl rfl rfl rfl ?_ | (apply q_rdg; rfl; rfl; rfl; exact rd_go; rfl) | refine q_skip rfl rfl rfl rfl ?_ | refine c_draw H (by kernel_rfl) ?_ | (refine q_end ?_; clear H; intro _ H) | ((first | refine l_st (z_box H ?_) | refine l_st (s_alloc H rfl ?_)); clear H; intro _ _ _ H) | (refine l_st (t_build0 H rfl ?_); clear H; intro _ _ _ _ H) | (refine l_st (z_sto H ?_); clear H; intro _ H) | ((first | refine c_cond ⟨rfl, rfl⟩ ?_ ?_ | refine c_ncond ⟨rfl, rfl⟩ ?_ ?_ | refine l_split rfl rfl ?_ ?_ | refine q_split rfl rfl ?_ ?_ | refine l_nsplit rfl rfl ?_ ?_ | refine q_nsplit rfl rfl ?_ ?_) <;> intro _ <;> try (exfalso; omega)) | (refine l_st (k_call1 evs_auto H ca_Im7 rfl ?_); clear H; intro _ _ H) | (refine l_st (k_callg1 evs_auto rfl rfl rfl H ca_Im7 rfl ?_); clear H; intro _ _ H) | refine kq_call1 evs_auto H (fun _ H => ca_Im7) rfl ?_ | refine kq_callg1 evs_auto rfl rfl rfl H (fun _ H => ca_Im7) rfl ?_)
    have H1 := H.own_nil 103 2
    refine c_loopk [10, 9, 7] [2, 3, 6, 8] (fun n vs w' => ∃ (k : Nat) (A9 : Option Addr) (c9 : Nat) (m : Int), vs = [.int .i64 k, .slice A9 (extsUpto f k).length c9, .int .i64 m] ∧ k ≤ p.im[i].length ∧ n = p.im[i].length - k ∧ 0 ≤ m ∧ m ≤ 4096 * i + k ∧
        Hp w M w' _ [⟨.slice A9 (extsUpto f k).length c9, 103, 2, (extsUpto f k).length, (extsUpto f k).flatMap fE⟩, ⟨.slice A' xs.length c', 68, 1, xs.length, cs⟩] _) _ [_, _, _, _] rfl
        ⟨0, none, 0, m, rfl, Nat.zero_le _, rfl, hm0, by omega, H1⟩ ?_
    clear H H1
    rintro n _ E1 w3 ⟨k, A9, c9, mm, rfl, hk, rfl, hm2, hm3, H⟩
    have hin := extsUpto_in f k
    generalize hl : extsUpto f k = l at *
    have hin1 := hin.1
    by_cases hk' : k < p.im[i].length
    · have hfk1 := hfk k hk'
      have yes : (getB (p.dirty[i]'(by omega)) k ∨ getB (q.dirty[i]'(by omega)) k) → extsUpto f (k + 1) = addExt l k := fun h => by rw [extsUpto_yes (hfk1.1 h), hl]
      have no : ¬ (getB (p.dirty[i]'(by omega)) k ∨ getB (q.dirty[i]'(by omega)) k) → extsUpto f (k + 1) = l := fun h => by rw [extsUpto_no (fun e => h (hfk1.2 e)), hl]
      repeat' (first | (apply l_rd; exact rd_go; rfl) | (apply q_rd; exact rd_go; rfl) | refine stp ?_ | refine bk_o rfl ?_ | refine c_true ⟨rfl, rfl⟩ ?_ | refine c_false ⟨rfl, rfl⟩ ?_ | (apply l_rdg; rfl; rfl; rfl; exact rd_go; rfl) | refine l_skip rfl rfl rfl rfl ?_ | (apply q_rdg; rfl; rfl; rfl; exact rd_go; rfl) | refine q_skip rfl rfl rfl rfl ?_ | refine c_draw H (by kernel_rfl) ?_ | (refine q_end ?_; clear H; intro _ H) | ((first | refine l_st (z_box H ?_) | refine l_st (s_alloc H rfl ?_)); clear H; intro _ _ _ H) | (refine l_st (t_build0 H rfl ?_); clear H; intro _ _ _ _ H) | (refine l_st (z_sto H ?_); clear H; intro _ H) | ((first | refine c_cond ⟨rfl, rfl⟩ ?_ ?_ | refine c_ncond ⟨rfl, rfl⟩ ?_ ?_ | refine l_split rfl rfl ?_ ?_ | refine q_split rfl rfl ?_ ?_ | refine l_nsplit rfl rfl ?_ ?_ | refine q_nsplit rfl rfl ?_ ?_) <;> intro _ <;> try (exfalso; omega)) | (refine l_st (k_call1 evs_auto H ca_Im7 rfl ?_); clear H; intro _ _ H) | (refine l_st (k_callg1 evs_auto rfl rfl rfl H ca_Im7 rfl ?_); clear H; intro _ _ H) | refine kq_call1 evs_auto H (fun _ H => ca_Im7) rfl ?_ | refine kq_callg1 evs_auto rfl rfl rfl H (fun _ H => ca_Im7) rfl ?_)
      · have hno := no (by assumption)
        refine lk_n rfl (n' := p.im[i].length - (k + 1)) (by omega) ⟨k + 1, A9, c9, mm, by rw [hno]; rfl, by omega, rfl, by omega, by omega, ?_⟩
        rw [hno]; exact H
      · have hyes := yes (by assumption)
        have hpos : (l.length : Int) > 0 := by assumption
        have hq : ((l.length : Int) - 1).toNat < l.length := by omega
        obtain ⟨q1, q2, q3⟩ := hin.2 _ (List.getElem_mem hq)
        repeat' (first | (apply l_rd; exact rd_go; rfl) | (apply q_rd; exact rd_go; rfl) | refine stp ?_ | refine bk_o rfl ?_ | refine c_true ⟨rfl, rfl⟩ ?_ | refine c_false ⟨rfl, rfl⟩ ?_ | (apply l_rdg; rfl; rfl; rfl; exact rd_go; rfl) | refine l_skip rfl rfl rfl rfl ?_ | (apply q_rdg; rfl; rfl; rfl; exact rd_go; rfl) | refine q_skip rfl rfl rfl rfl ?_ | refine c_draw H (by kernel_rfl) ?_ | (refine q_end ?_; clear H; intro _ H) | ((first | refine l_st (z_box H ?_) | refine l_st (s_alloc H rfl ?_)); clear H; intro _ _ _ H) | (refine l_st (t_build0 H rfl ?_); clear H; intro _ _ _ _ H) | (refine l_st (z_sto H ?_); clear H; intro _ H) | ((first | refine c_cond ⟨rfl, rfl⟩ ?_ ?_ | refine c_ncond ⟨rfl, rfl⟩ ?_ ?_ | refine l_split rfl rfl ?_ ?_ | refine q_split rfl rfl ?_ ?_ | refine l_nsplit rfl rfl ?_ ?_ | refine q_nsplit rfl rfl ?_ ?_) <;> intro _ <;> try (exfalso; omega)) | (refine l_st (k_call1 evs_auto H ca_Im7 rfl ?_); clear H; intro _ _ H) | (refine l_st (k_callg1 evs_auto rfl rfl rfl H ca_Im7 rfl ?_); clear H; intro _ _ H) | refine kq_call1 evs_auto H (fun _ H => ca_Im7) rfl ?_ | refine kq_callg1 evs_auto rfl rfl rfl H (fun _ H => ca_Im7) rfl ?_)
        · have hadd := addExt_last (l := l) (i := k) hq (by omega) (by assumption)
          refine l_st (t_store_flat (j := 0) (f := fE) (v := .slice _ _ _) (q := .int _ _) ⟨l[((l.length : Int) - 1).toNat].start, l[((l.length : Int) - 1).toNat].count + 1⟩ H rfl ⟨rfl, rfl⟩ ⟨rfl, rfl⟩ (fun _ => rfl) rfl hq (by decide) rfl rfl ?_)
          clear H; intro _ H
          repeat' (first | (apply l_rd; exact rd_go; rfl) | (apply q_rd; exact rd_go; rfl) | refine stp ?_ | refine bk_o rfl ?_ | refine c_true ⟨rfl, rfl⟩ ?_ | refine c_false ⟨rfl, rfl⟩ ?_ | (apply l_rdg; rfl; rfl; rfl; exact rd_go; rfl) | refine l_skip rfl rfl rfl rfl ?_ | (apply q_rdg; rfl; rfl; rfl; exact rd_go; rfl) | refine q_skip rfl rfl rfl rfl ?_ | refine c_draw H (by kernel_rfl) ?_ | (refine q_end ?_; clear H; intro _ H) | ((first | refine l_st (z_box H ?_) | refine l_st (s_alloc H rfl ?_)); clear H; intro _ _ _ H) | (refine l_st (t_build0 H rfl ?_); clear H; intro _ _ _ _ H) | (refine l_st (z_sto H ?_); clear H; intro _ H) | ((first | refine c_cond ⟨rfl, rfl⟩ ?_ ?_ | refine c_ncond ⟨rfl, rfl⟩ ?_ ?_ | refine l_split rfl rfl ?_ ?_ | refine q_split rfl rfl ?_ ?_ | refine l_nsplit rfl rfl ?_ ?_ | refine q_nsplit rfl rfl ?_ ?_) <;> intro _ <;> try (exfalso; omega)) | (refine l_st (k_call1 evs_auto H ca_Im7 rfl ?_); clear H; intro _ _ H) | (refine l_st (k_callg1 evs_auto rfl rfl rfl H ca_Im7 rfl ?_); clear H; intro _ _ H) | refine kq_call1 evs_auto H (fun _ H => ca_Im7) rfl ?_ | refine kq_callg1 evs_auto rfl rfl rfl H (fun _ H => ca_Im7) rfl ?_)
          have hlen2 : (extsUpto f (k + 1)).length = l.length := by rw [hyes, hadd, List.length_set]
          refine lk_n rfl (n' := p.im[i].length - (k + 1)) (by omega) ⟨k + 1, A9, c9, mm + 1, by rw [hlen2]; rfl, by omega, rfl, by omega, by omega, ?_⟩
          rw [hlen2, hyes, hadd]; exact H
        · have hadd := addExt_new (l := l) (i := k) hq (by omega) (by assumption)
          refine l_appf (j := 0) (f := fE) (v := .slice _ _ _) (xs := l) ⟨k, 1⟩ H rfl ⟨rfl, rfl⟩ rfl rfl rfl rfl (fun _ => ⟨rfl, rfl⟩) (by omega) rfl ?_
          clear H; intro A10 c10 _ _ H
          repeat' (first | (apply l_rd; exact rd_go; rfl) | (apply q_rd; exact rd_go; rfl) | refine stp ?_ | refine bk_o rfl ?_ | refine c_true ⟨rfl, rfl⟩ ?_ | refine c_false ⟨rfl, rfl⟩ ?_ | (apply l_rdg; rfl; rfl; rfl; exact rd_go; rfl) | refine l_skip rfl rfl rfl rfl ?_ | (apply q_rdg; rfl; rfl; rfl; exact rd_go; rfl) | refine q_skip rfl rfl rfl rfl ?_ | refine c_draw H (by kernel_rfl) ?_ | (refine q_end ?_; clear H; intro _ H) | ((first | refine l_st (z_box H ?_) | refine l_st (s_alloc H rfl ?_)); clear H; intro _ _ _ H) | (refine l_st (t_build0 H rfl ?_); clear H; intro _ _ _ _ H) | (refine l_st (z_sto H ?_); clear H; intro _ H) | ((first | refine c_cond ⟨rfl, rfl⟩ ?_ ?_ | refine c_ncond ⟨rfl, rfl⟩ ?_ ?_ | refine l_split rfl rfl ?_ ?_ | refine q_split rfl rfl ?_ ?_ | refine l_nsplit rfl rfl ?_ ?_ | refine q_nsplit rfl rfl ?_ ?_) <;> intro _ <;> try (exfalso; omega)) | (refine l_st (k_call1 evs_auto H ca_Im7 rfl ?_); clear H; intro _ _ H) | (refine l_st (k_callg1 evs_auto rfl rfl rfl H ca_Im7 rfl ?_); clear H; intro _ _ H) | refine kq_call1 evs_auto H (fun _ H => ca_Im7) rfl ?_ | refine kq_callg1 evs_auto rfl rfl rfl H (fun _ H => ca_Im7) rfl ?_)
          refine lk_n rfl (n' := p.im[i].length - (k + 1)) (by omega) ⟨k + 1, A10, c10, mm + 1, ?_, by omega, rfl, by omega, by omega, ?_⟩
          · rw [hyes, hadd]; rfl
          · rw [hyes, hadd]; exact H
      · have hyes := yes (by assumption)
        have hadd := addExt_nil (l := l) (i := k) (by omega)
        refine l_appf (j := 0) (f := fE) (v := .slice _ _ _) (xs := l) ⟨k, 1⟩ H rfl ⟨rfl, rfl⟩ rfl rfl rfl rfl (fun _ => ⟨rfl, rfl⟩) (by omega) rfl ?_
        clear H; intro A10 c10 _ _ H
        repeat' (first | (apply l_rd; exact rd_go; rfl) | (apply q_rd; exact rd_go; rfl) | refine stp ?_ | refine bk_o rfl ?_ | refine c_true ⟨rfl, rfl⟩ ?_ | refine c_false ⟨rfl, rfl⟩ ?_ | (apply l_rdg; rfl; rfl; rfl; exact rd_go; rfl) | refine l_skip rfl rfl rfl rfl ?_ | (apply q_rdg; rfl; rfl; rfl; exact rd_go; rfl) | refine q_skip rfl rfl rfl rfl ?_ | refine c_draw H (by kernel_rfl) ?_ | (refine q_end ?_; clear H; intro _ H) | ((first | refine l_st (z_box H ?_) | refine l_st (s_alloc H rfl ?_)); clear H; intro _ _ _ H) | (refine l_st (t_build0 H rfl ?_); clear H; intro _ _ _ _ H) | (refine l_st (z_sto H ?_); clear H; intro _ H) | ((first | refine c_cond ⟨rfl, rfl⟩ ?_ ?_ | refine c_ncond ⟨rfl, rfl⟩ ?_ ?_ | refine l_split rfl rfl ?_ ?_ | refine q_split rfl rfl ?_ ?_ | refine l_nsplit rfl rfl ?_ ?_ | refine q_nsplit rfl rfl ?_ ?_) <;> intro _ <;> try (exfalso; omega)) | (refine l_st (k_call1 evs_auto H ca_Im7 rfl ?_); clear H; intro _ _ H) | (refine l_st (k_callg1 evs_auto rfl rfl rfl H ca_Im7 rfl ?_); clear H; intro _ _ H) | refine kq_call1 evs_auto H (fun _ H => ca_Im7) rfl ?_ | refine kq_callg1 evs_auto rfl rfl rfl H (fun _ H => ca_Im7) rfl ?_)
        refine lk_n rfl (n' := p.im[i].length - (k + 1)) (by omega) ⟨k + 1, A10, c10, mm + 1, ?_, by omega, rfl, by omega, by omega, ?_⟩
        · rw [hyes, hadd]; rfl
        · rw [hyes, hadd]; exact H
    · have hk2 : k = p.dirty[i].size.toNat := by omega
      rw [← hk2, hl] at hb
      obtain ⟨s3, s4, H1⟩ := H.sealf (dd := kExt) (fun _ => rfl) (fun w' x hx => by
        obtain ⟨e1, e2, e3⟩ := hin.2 x hx
        exact ⟨rfl, by simp only [rng]; omega, by simp only [rng]; omega⟩) hM Nat.zero_lt_two rfl (by omega)
      clear H; have H := H1; clear H1
      repeat' (first | (apply l_rd; exact rd_go; rfl) | (apply q_rd; exact rd_go; rfl) | refine stp ?_ | refine bk_o rfl ?_ | refine c_true ⟨rfl, rfl⟩ ?_ | refine c_false ⟨rfl, rfl⟩ ?_ | (apply l_rdg; rfl; rfl; rfl; exact rd_go; rfl) | refine l_skip rfl rfl rfl rfl ?_ | (apply q_rdg; rfl; rfl; rfl; exact rd_go; rfl) | refine q_skip rfl rfl rfl rfl ?_ | refine c_draw H (by kernel_rfl) ?_ | (refine q_end ?_; clear H; intro _ H) | ((first | refine l_st (z_box H ?_) | refine l_st (s_alloc H rfl ?_)); clear H; intro _ _ _ H) | (refine l_st (t_build0 H rfl ?_); clear H; intro _ _ _ _ H) | (refine l_st (z_sto H ?_); clear H; intro _ H) | ((first | refine c_cond ⟨rfl, rfl⟩ ?_ ?_ | refine c_ncond ⟨rfl, rfl⟩ ?_ ?_ | refine l_split rfl rfl ?_ ?_ | refine q_split rfl rfl ?_ ?_ | refine l_nsplit rfl rfl ?_ ?_ | refine q_nsplit rfl rfl ?_ ?_) <;> intro _ <;> try (exfalso; omega)) | (refine l_st (k_call1 evs_auto H ca_Im7 rfl ?_); clear H; intro _ _ H) | (refine l_st (k_callg1 evs_auto rfl rfl rfl H ca_Im7 rfl ?_); clear H; intro _ _ H) | refine kq_call1 evs_auto H (fun _ H => ca_Im7) rfl ?_ | refine kq_callg1 evs_auto rfl rfl rfl H (fun _ H => ca_Im7) rfl ?_)
      refine l_apps (j := 0) (dd := kSl 2 kExt) (xs := xs) l H rfl rfl mem_auto ⟨rfl, rfl⟩ ((H.fact _ mem_auto).imp fun w' h => ⟨A9, c9, rfl, s3, s4, h⟩) rfl (fun _ => ⟨rfl, rfl⟩) (by omega) rfl ?_
      clear H; intro A10 c10 _ _ H
      repeat' (first | (apply l_rd; exact rd_go; rfl) | (apply q_rd; exact rd_go; rfl) | refine stp ?_ | refine bk_o rfl ?_ | refine c_true ⟨rfl, rfl⟩ ?_ | refine c_false ⟨rfl, rfl⟩ ?_ | (apply l_rdg; rfl; rfl; rfl; exact rd_go; rfl) | refine l_skip rfl rfl rfl rfl ?_ | (apply q_rdg; rfl; rfl; rfl; exact rd_go; rfl) | refine q_skip rfl rfl rfl rfl ?_ | refine c_draw H (by kernel_rfl) ?_ | (refine q_end ?_; clear H; intro _ H) | ((first | refine l_st (z_box H ?_) | refine l_st (s_alloc H rfl ?_)); clear H; intro _ _ _ H) | (refine l_st (t_build0 H rfl ?_); clear H; intro _ _ _ _ H) | (refine l_st (z_sto H ?_); clear H; intro _ H) | ((first | refine c_cond ⟨rfl, rfl⟩ ?_ ?_ | refine c_ncond ⟨rfl, rfl⟩ ?_ ?_ | refine l_split rfl rfl ?_ ?_ | refine q_split rfl rfl ?_ ?_ | refine l_nsplit rfl rfl ?_ ?_ | refine q_nsplit rfl rfl ?_ ?_) <;> intro _ <;> try (exfalso; omega)) | (refine l_st (k_call1 evs_auto H ca_Im7 rfl ?_); clear H; intro _ _ H) | (refine l_st (k_callg1 evs_auto rfl rfl rfl H ca_Im7 rfl ?_); clear H; intro _ _ H) | refine kq_call1 evs_auto H (fun _ H => ca_Im7) rfl ?_ | refine kq_callg1 evs_auto rfl rfl rfl H (fun _ H => ca_Im7) rfl ?_)
      exact lk_n rfl (n' := p.im.length - (i + 1)) (by omega) ⟨i + 1, A10, c10, mm, xs ++ [l], _, rfl, hi', rfl, by omega, by omega, by rw [hxs, List.take_add_one, hb]; rfl, H.weak (List.Sublist.refl _) (List.Sublist.refl _) (by simp)⟩
  · repeat' (first | (apply l_rd; exact rd_go; rfl) | (apply q_rd; exact rd_go; rfl) | refine stp ?_ | refine bk_o rfl ?_ | refine c_true ⟨rfl, rfl⟩ ?_ | refine c_false ⟨rfl, rfl⟩ ?_ | (apply l_rdg; rfl; rfl; rfl; exact rd_go; rfl) | refine l_skip rfl rfl rfl rfl ?_ | (apply q_rdg; rfl; rfl; rfl; exact rd_go; rfl) | refine q_skip rfl rfl rfl rfl ?_ | refine c_draw H (by kernel_rfl) ?_ | (refine q_end ?_; clear H; intro _ H) | ((first | refine l_st (z_box H ?_) | refine l_st (s_alloc H rfl ?_)); clear H; intro _ _ _ H) | (refine l_st (t_build0 H rfl ?_); clear H; intro _ _ _ _ H) | (refine l_st (z_sto H ?_); clear H; intro _ H) | ((first | refine c_cond ⟨rfl, rfl⟩ ?_ ?_ | refine c_ncond ⟨rfl, rfl⟩ ?_ ?_ | refine l_split rfl rfl ?_ ?_ | refine q_split rfl rfl ?_ ?_ | refine l_nsplit rfl rfl ?_ ?_ | refine q_nsplit rfl rfl ?_ ?_) <;> intro _ <;> try (exfalso; omega)) | (refine l_st (k_call1 evs_auto H ca_Im7 rfl ?_); clear H; intro _ _ H) | (refine l_st (k_callg1 evs_auto rfl rfl rfl H ca_Im7 rfl ?_); clear H; intro _ _ H) | refine kq_call1 evs_auto H (fun _ H => ca_Im7) rfl ?_ | refine kq_callg1 evs_auto rfl rfl rfl H (fun _ H => ca_Im7) rfl ?_)
    have hi2 : i = p.im.length := by omega
    refine ret2 H rfl rfl rfl rfl ?_
    have e : xs = betw p q := by rw [hxs]; exact List.take_of_length_le (by omega)
    rw [← e]
    exact ⟨_, _, rfl, H.fresh (j := 0) rfl mem_auto rfl⟩
end Go.Proofs.YtiolpldihoghiaaDoor

namespace Go.Proofs.YtiolpldihoghiaaDoor
open Go.RowKit
set_option linter.unusedVariables false
set_option linter.unusedSimpArgs false
set_option maxHeartbeats 4000000
theorem orBm_size {a b : Bm} (h : rng .i64 a.size) : rng .i64 (orBm a b).1.size := by
  unfold orBm; repeat' split
  all_goals first | exact h | simp [noBm, rng]
theorem orBm_words {a b : Bm} (h : a.words.length ≤ 100000) : (orBm a b).1.words.length ≤ 100000 := by
  unfold orBm; repeat' split
  all_goals first | (simp only [wordsOf_length]; exact h) | simp [noBm]
theorem dmarked_any (M : Nat → Prop) (w : World) (hM : ∀ b, M b → b < w.heap.size) (p q : Pt) (A2 B2 : Option Addr) (c2 d2 : Nat) (u1 u2 u3 v1 v2 v3 : Value) (hl : p.dirty.length = q.dirty.length) (hl2 : p.dirty.length ≤ 1000000)
    (h2 : Stab w M (Row kBm 2 A2 p.dirty)) (k2 : Stab w M (Row kBm 2 B2 q.dirty)) (hT : Stab w M TabF) (hwl : ∀ b ∈ p.dirty, b.words.length ≤ 100000) :
    Ret Tryd.prog 99 [.agg [u1, u2, .slice A2 p.dirty.length c2, u3].toArray, .agg [v1, v2, .slice B2 q.dirty.length d2, v3].toArray] w
      fun v w' => Fresh (kSl 2 kExt) 68 1 M w (betw p q) v w' := by
  have hbl : (betw p q).length = p.dirty.length := by unfold betw; rw [List.length_zipWith]; omega
  refine enter (M := M) (F := [Row kBm 2 A2 p.dirty, Row kBm 2 B2 q.dirty, TabF]) Tryd.func99 rfl rfl rfl (by simpa using ⟨h2, k2, hT⟩) fun H => ?_
  repeat' (first | (apply l_rd; exact rd_go; rfl) | (apply q_rd; exact rd_go; rfl) | refine stp ?_ | refine bk_o rfl ?_ | refine c_true ⟨rfl, rfl⟩ ?_ | refine c_false ⟨rfl, rfl⟩ ?_ | (apply l_rdg; rfl; rfl; rfl; exact rd_go; rfl) | refine l_skip rfl rfl rfl rfl ?_ | (apply q_rdg; rfl; rfl; rfl; exact rd_go; rfl) | refine q_skip rfl rfl rfl rfl ?_ | (refine q_end ?_; clear H; intro _ H) | ((first | refine l_st (z_box H ?_) | refine l_st (s_alloc H rfl ?_)); clear H; intro _ _ _ H) | (refine l_st (t_build0 H rfl ?_); clear H; intro _ _ _ _ H) | (refine l_st (z_sto H ?_); clear H; intro _ H) | ((first | refine c_cond ⟨rfl, rfl⟩ ?_ ?_ | refine c_ncond ⟨rfl, rfl⟩ ?_ ?_ | refine l_split rfl rfl ?_ ?_ | refine q_split rfl rfl ?_ ?_ | refine l_nsplit rfl rfl ?_ ?_ | refine q_nsplit rfl rfl ?_ ?_) <;> intro _ <;> try (exfalso; omega)))
  refine l_st (t_make (n := p.dirty.length) H ⟨rfl, rfl⟩ ⟨rfl, rfl⟩ rfl (by omega) rfl ?_)
  clear H; intro A1 c1 _ _ H
  rw [Nat.mul_one] at H
  have H1 := H.add (f := Chunks (kSl 2 kExt) 1 (List.replicate p.dirty.length ([] : List Ext)) (List.replicate p.dirty.length (.slice none 0 0))) (fun _ _ _ => chunks_nils)
  clear H; have H := H1; clear H1
  repeat' (first | (apply l_rd; exact rd_go; rfl) | (apply q_rd; exact rd_go; rfl) | refine stp ?_ | refine bk_o rfl ?_ | refine c_true ⟨rfl, rfl⟩ ?_ | refine c_false ⟨rfl, rfl⟩ ?_ | (apply l_rdg; rfl; rfl; rfl; exact rd_go; rfl) | refine l_skip rfl rfl rfl rfl ?_ | (apply q_rdg; rfl; rfl; rfl; exact rd_go; rfl) | refine q_skip rfl rfl rfl rfl ?_ | (refine q_end ?_; clear H; intro _ H) | ((first | refine l_st (z_box H ?_) | refine l_st (s_alloc H rfl ?_)); clear H; intro _ _ _ H) | (refine l_st (t_build0 H rfl ?_); clear H; intro _ _ _ _ H) | (refine l_st (z_sto H ?_); clear H; intro _ H) | ((first | refine c_cond ⟨rfl, rfl⟩ ?_ ?_ | refine c_ncond ⟨rfl, rfl⟩ ?_ ?_ | refine l_split rfl rfl ?_ ?_ | refine q_split rfl rfl ?_ ?_ | refine l_nsplit rfl rfl ?_ ?_ | refine q_nsplit rfl rfl ?_ ?_) <;> intro _ <;> try (exfalso; omega)))
  refine c_loopk [15] [13, 14, 2, 3, 5] (fun n vs w' => ∃ (i : Nat) (xs : List (List Ext)) (cs : List Value), vs = [.int .i64 i] ∧ i ≤ p.dirty.length ∧ n = p.dirty.length - i ∧ xs.length = p.dirty.length ∧ (∀ j, j < i → xs[j]? = (betw p q)[j]?) ∧
      Hp w M w' [⟨_, [v1, v2, .slice B2 q.dirty.length d2, v3], _⟩, ⟨_, [u1, u2, .slice A2 p.dirty.length c2, u3], _⟩] [⟨.slice A1 p.dirty.length c1, 68, 1, p.dirty.length, cs⟩] [Chunks (kSl 2 kExt) 1 xs cs, Row kBm 2 A2 p.dirty, Row kBm 2 B2 q.dirty, TabF]) _ [_, _, _, _, _] rfl
      ⟨0, _, _, rfl, Nat.zero_le _, rfl, List.length_replicate, fun j hj => by omega, H⟩ ?_
  clear H
  rintro n _ E0 w2 ⟨i, xs, cs, rfl, hi, rfl, hxl, hxs, H⟩
  by_cases hi' : i < p.dirty.length
  · obtain ⟨A4, c4, hs4, _, _, H1⟩ := H.openBm (A := A2) (xs := p.dirty) mem_auto hi'
    obtain ⟨A5, c5, hs5, _, _, H2⟩ := H1.openBm (A := B2) (xs := q.dirty) (i := i) mem_auto (by omega)
    clear H H1; have H := H2; clear H2
    have hq : i < q.dirty.length := by omega
    have hb : (betw p q)[i]? = some (orExts p.dirty[i] q.dirty[i]) := by
      unfold betw; rw [List.getElem?_zipWith, List.getElem?_eq_getElem hi', List.getElem?_eq_getElem hq]
    have hwi := hwl _ (List.getElem_mem hi')
    repeat' (first | (apply l_rd; exact rd_go; rfl) | (apply q_rd; exact rd_go; rfl) | refine stp ?_ | refine bk_o rfl ?_ | refine c_true ⟨rfl, rfl⟩ ?_ | refine c_false ⟨rfl, rfl⟩ ?_ | (apply l_rdg; rfl; rfl; rfl; exact rd_go; rfl) | refine l_skip rfl rfl rfl rfl ?_ | (apply q_rdg; rfl; rfl; rfl; exact rd_go; rfl) | refine q_skip rfl rfl rfl rfl ?_ | (refine q_end ?_; clear H; intro _ H) | ((first | refine l_st (z_box H ?_) | refine l_st (s_alloc H rfl ?_)); clear H; intro _ _ _ H) | (refine l_st (t_build0 H rfl ?_); clear H; intro _ _ _ _ H) | (refine l_st (z_sto H ?_); clear H; intro _ H) | ((first | refine c_cond ⟨rfl, rfl⟩ ?_ ?_ | refine c_ncond ⟨rfl, rfl⟩ ?_ ?_ | refine l_split rfl rfl ?_ ?_ | refine q_split rfl rfl ?_ ?_ | refine l_nsplit rfl rfl ?_ ?_ | refine q_nsplit rfl rfl ?_ ?_) <;> intro _ <;> try (exfalso; omega)))
    refine c_mix H [15] ?_
    clear H; intro w3 H
    (apply m_rd (i := 0) rfl (by decide +kernel) (by first | exact Below.refl _ _ | assumption); exact rd_go; rfl); (apply m_rd (i := 1) rfl (by decide +kernel) (by first | exact Below.refl _ _ | assumption); exact rd_go; rfl); (apply m_rd (i := 2) rfl (by decide +kernel) (by first | exact Below.refl _ _ | assumption); exact rd_go; rfl); (apply m_rd (i := 3) rfl (by decide +kernel) (by first | exact Below.refl _ _ | assumption); exact rd_go; rfl); (apply m_rd (i := 4) rfl (by decide +kernel) (by first | exact Below.refl _ _ | assumption); exact rd_go; rfl); (apply m_rd (i := 5) rfl (by decide +kernel) (by first | exact Below.refl _ _ | assumption); exact rd_go; rfl); (apply m_rd (i := 6) rfl (by decide +kernel) (by first | exact Below.refl _ _ | assumption); exact rd_go; rfl); (apply m_rd (i := 7) rfl (by decide +kernel) (by first | exact Below.refl _ _ | assumption); exact rd_go; rfl); (apply m_rd (i := 8) rfl (by decide +kernel) (by first | exact Below.refl _ _ | assumption); exact rd_go; rfl); (apply m_rd (i := 9) rfl (by decide +kernel) (by first | exact Below.refl _ _ | assumption); exact rd_go; rfl)
    refine m_two (i := 10) (j := 14) (by kernel_rfl) rfl rfl (k_call evs_auto H (or_any _ (p.dirty[i]'hi') (q.dirty[i]'hq) A4 A5 c4 c5 _ hs4 hs5 (H.fact _ mem_auto) (H.fact _ mem_auto)) rfl ?_) (s_alloc H rfl ?_)
    · rintro _ w4 ⟨vs, rfl, hf⟩ hb4 _
      obtain ⟨A6, c6, ws, rfl, _, _, H5⟩ := H.take' hb4 hf
      clear H; have H := H5; clear H5
      refine ⟨fun _ => hb4, ?_⟩
      (apply m_pure (i := 11) rfl (by decide +kernel); intro _; exact rd_go; rfl); (apply m_pure (i := 12) rfl (by decide +kernel); intro _; exact rd_go; rfl); (apply m_pure (i := 13) rfl (by decide +kernel); intro _; exact rd_go; rfl)
      refine m_one (i := 14) (by kernel_rfl) rfl (s_alloc H rfl ?_)
      intro w5 b5 hb5 H6
      refine ⟨fun _ => hb4.trans (hb5.mono hb4.size), ?_⟩
      refine m_one (i := 15) (by kernel_rfl) rfl (s_storea (i := 0) H6 ⟨rfl, rfl⟩ rfl ⟨rfl, rfl⟩ rfl rfl rfl ?_)
      intro w6 H7
      refine ⟨fun h => (by cases h), ?_⟩
      (apply m_pure (i := 16) rfl (by decide +kernel); intro _; exact rd_go; rfl)
      refine m_end (by kernel_rfl) ?_
      clear H H6; have H := H7; clear H7
      obtain ⟨_, _, H8⟩ := H.sealR (dd := kInt .u64) (xs := (orBm (p.dirty[i]'hi') (q.dirty[i]'hq)).1.words) mem_auto hM Nat.zero_lt_one rfl (by have := orBm_words (b := q.dirty[i]'hq) hwi; omega)
      clear H; have H := H8; clear H8
      repeat' (first | (apply l_rd; exact rd_go; rfl) | (apply q_rd; exact rd_go; rfl) | refine stp ?_ | refine bk_o rfl ?_ | refine c_true ⟨rfl, rfl⟩ ?_ | refine c_false ⟨rfl, rfl⟩ ?_ | (apply l_rdg; rfl; rfl; rfl; exact rd_go; rfl) | refine l_skip rfl rfl rfl rfl ?_ | (apply q_rdg; rfl; rfl; rfl; exact rd_go; rfl) | refine q_skip rfl rfl rfl rfl ?_ | (refine q_end ?_; clear H; intro _ H) | ((first | refine l_st (z_box H ?_) | refine l_st (s_alloc H rfl ?_)); clear H; intro _ _ _ H) | (refine l_st (t_build0 H rfl ?_); clear H; intro _ _ _ _ H) | (refine l_st (z_sto H ?_); clear H; intro _ H) | ((first | refine c_cond ⟨rfl, rfl⟩ ?_ ?_ | refine c_ncond ⟨rfl, rfl⟩ ?_ ?_ | refine l_split rfl rfl ?_ ?_ | refine q_split rfl rfl ?_ ?_ | refine l_nsplit rfl rfl ?_ ?_ | refine q_nsplit rfl rfl ?_ ?_) <;> intro _ <;> try (exfalso; omega)))
      refine l_st (k_call evs_auto H (extents_any _ (orBm (p.dirty[i]'hi') (q.dirty[i]'hq)).1 A6 c6 _ (H.mu_lt hM) (orBm_size hs4) (H.fact _ mem_auto) (H.fact _ mem_auto)) rfl ?_)
      rintro v w8 hf8 hb8 _
      obtain ⟨A9, c9, cs9, rfl, _, _, H9⟩ := H.take' hb8 hf8
      obtain ⟨s3, s4, H10⟩ := H9.sealR (dd := kExt) (xs := exts (orBm (p.dirty[i]'hi') (q.dirty[i]'hq)).1) mem_auto hM Nat.zero_lt_two rfl (by have := (exts_B (orBm (p.dirty[i]'hi') (q.dirty[i]'hq)).1).1; omega)
      clear H H9 hf8; have H := H10; clear H10
      repeat' (first | (apply l_rd; exact rd_go; rfl) | (apply q_rd; exact rd_go; rfl) | refine stp ?_ | refine bk_o rfl ?_ | refine c_true ⟨rfl, rfl⟩ ?_ | refine c_false ⟨rfl, rfl⟩ ?_ | (apply l_rdg; rfl; rfl; rfl; exact rd_go; rfl) | refine l_skip rfl rfl rfl rfl ?_ | (apply q_rdg; rfl; rfl; rfl; exact rd_go; rfl) | refine q_skip rfl rfl rfl rfl ?_ | (refine q_end ?_; clear H; intro _ H) | ((first | refine l_st (z_box H ?_) | refine l_st (s_alloc H rfl ?_)); clear H; intro _ _ _ H) | (refine l_st (t_build0 H rfl ?_); clear H; intro _ _ _ _ H) | (refine l_st (z_sto H ?_); clear H; intro _ H) | ((first | refine c_cond ⟨rfl, rfl⟩ ?_ ?_ | refine c_ncond ⟨rfl, rfl⟩ ?_ ?_ | refine l_split rfl rfl ?_ ?_ | refine q_split rfl rfl ?_ ?_ | refine l_nsplit rfl rfl ?_ ?_ | refine q_nsplit rfl rfl ?_ ?_) <;> intro _ <;> try (exfalso; omega)))
      refine l_st (t_store_sl (j := 0) (dd := kSl 2 kExt) (xs := xs) (exts (orBm (p.dirty[i]'hi') (q.dirty[i]'hq)).1) H rfl mem_auto ⟨rfl, rfl⟩ (by omega) ⟨rfl, rfl⟩ ((H.fact _ mem_auto).imp fun w' h => ⟨A9, c9, rfl, s3, s4, h⟩) ?_)
      clear H; intro _ H
      repeat' (first | (apply l_rd; exact rd_go; rfl) | (apply q_rd; exact rd_go; rfl) | refine stp ?_ | refine bk_o rfl ?_ | refine c_true ⟨rfl, rfl⟩ ?_ | refine c_false ⟨rfl, rfl⟩ ?_ | (apply l_rdg; rfl; rfl; rfl; exact rd_go; rfl) | refine l_skip rfl rfl rfl rfl ?_ | (apply q_rdg; rfl; rfl; rfl; exact rd_go; rfl) | refine q_skip rfl rfl rfl rfl ?_ | (refine q_end ?_; clear H; intro _ H) | ((first | refine l_st (z_box H ?_) | refine l_st (s_alloc H rfl ?_)); clear H; intro _ _ _ H) | (refine l_st (t_build0 H rfl ?_); clear H; intro _ _ _ _ H) | (refine l_st (z_sto H ?_); clear H; intro _ H) | ((first | refine c_cond ⟨rfl, rfl⟩ ?_ ?_ | refine c_ncond ⟨rfl, rfl⟩ ?_ ?_ | refine l_split rfl rfl ?_ ?_ | refine q_split rfl rfl ?_ ?_ | refine l_nsplit rfl rfl ?_ ?_ | refine q_nsplit rfl rfl ?_ ?_) <;> intro _ <;> try (exfalso; omega)))
      refine lk_n rfl (n' := p.dirty.length - (i + 1)) (by omega) ⟨i + 1, xs.set i (exts (orBm (p.dirty[i]'hi') (q.dirty[i]'hq)).1), cs.set i (.slice A9 (exts (orBm (p.dirty[i]'hi') (q.dirty[i]'hq)).1).length c9), rfl, hi', rfl, by rw [List.length_set]; exact hxl, fun j hj => ?_, H.weak (.cons _ (List.Sublist.refl _)) (List.Sublist.refl _) (by simp)⟩
      rcases Nat.lt_succ_iff_lt_or_eq.1 hj with h | rfl
      · rw [List.getElem?_set_ne (by omega)]; exact hxs j h
      · rw [List.getElem?_set_self (by omega), hb]; rfl
    · intro w4 b4 hb4 H4
      refine ⟨fun _ => hb4, ?_⟩
      refine m_one (i := 10) (by kernel_rfl) rfl (k_call evs_auto H4 (or_any _ (p.dirty[i]'hi') (q.dirty[i]'hq) A4 A5 c4 c5 _ hs4 hs5 (H4.fact _ mem_auto) (H4.fact _ mem_auto)) rfl ?_)
      rintro _ w5 ⟨vs, rfl, hf⟩ hb5 _
      obtain ⟨A6, c6, ws, rfl, _, _, H5⟩ := H4.take' hb5 hf
      clear H H4; have H := H5; clear H5
      refine ⟨fun _ => hb4.trans (hb5.mono hb4.size), ?_⟩
      (apply m_pure (i := 11) rfl (by decide +kernel); intro _; exact rd_go; rfl); (apply m_pure (i := 12) rfl (by decide +kernel); intro _; exact rd_go; rfl); (apply m_pure (i := 13) rfl (by decide +kernel); intro _; exact rd_go; rfl)
      refine m_one (i := 15) (by kernel_rfl) rfl (s_storea (i := 0) H ⟨rfl, rfl⟩ rfl ⟨rfl, rfl⟩ rfl rfl rfl ?_)
      intro w6 H7
      refine ⟨fun h => (by cases h), ?_⟩
      (apply m_pure (i := 16) rfl (by decide +kernel); intro _; exact rd_go; rfl)
      refine m_end (by kernel_rfl) ?_
      clear H; have H := H7; clear H7
      obtain ⟨_, _, H8⟩ := H.sealR (dd := kInt .u64) (xs := (orBm (p.dirty[i]'hi') (q.dirty[i]'hq)).1.words) mem_auto hM Nat.zero_lt_one rfl (by have := orBm_words (b := q.dirty[i]'hq) hwi; omega)
      clear H; have H := H8; clear H8
      repeat' (first | (apply l_rd; exact rd_go; rfl) | (apply q_rd; exact rd_go; rfl) | refine stp ?_ | refine bk_o rfl ?_ | refine c_true ⟨rfl, rfl⟩ ?_ | refine c_false ⟨rfl, rfl⟩ ?_ | (apply l_rdg; rfl; rfl; rfl; exact rd_go; rfl) | refine l_skip rfl rfl rfl rfl ?_ | (apply q_rdg; rfl; rfl; rfl; exact rd_go; rfl) | refine q_skip rfl rfl rfl rfl ?_ | (refine q_end ?_; clear H; intro _ H) | ((first | refine l_st (z_box H ?_) | refine l_st (s_alloc H rfl ?_)); clear H; intro _ _ _ H) | (refine l_st (t_build0 H rfl ?_); clear H; intro _ _ _ _ H) | (refine l_st (z_sto H ?_); clear H; intro _ H) | ((first | refine c_cond ⟨rfl, rfl⟩ ?_ ?_ | refine c_ncond ⟨rfl, rfl⟩ ?_ ?_ | refine l_split rfl rfl ?_ ?_ | refine q_split rfl rfl ?_ ?_ | refine l_nsplit rfl rfl ?_ ?_ | refine q_nsplit rfl rfl ?_ ?_) <;> intro _ <;> try (exfalso; omega)))
      refine l_st (k_call evs_auto H (extents_any _ (orBm (p.dirty[i]'hi') (q.dirty[i]'hq)).1 A6 c6 _ (H.mu_lt hM) (orBm_size hs4) (H.fact _ mem_auto) (H.fact _ mem_auto)) rfl ?_)
      rintro v w8 hf8 hb8 _
      obtain ⟨A9, c9, cs9, rfl, _, _, H9⟩ := H.take' hb8 hf8
      obtain ⟨s3, s4, H10⟩ := H9.sealR (dd := kExt) (xs := exts (orBm (p.dirty[i]'hi') (q.dirty[i]'hq)).1) mem_auto hM Nat.zero_lt_two rfl (by have := (exts_B (orBm (p.dirty[i]'hi') (q.dirty[i]'hq)).1).1; omega)
      clear H H9 hf8; have H := H10; clear H10
      repeat' (first | (apply l_rd; exact rd_go; rfl) | (apply q_rd; exact rd_go; rfl) | refine stp ?_ | refine bk_o rfl ?_ | refine c_true ⟨rfl, rfl⟩ ?_ | refine c_false ⟨rfl, rfl⟩ ?_ | (apply l_rdg; rfl; rfl; rfl; exact rd_go; rfl) | refine l_skip rfl rfl rfl rfl ?_ | (apply q_rdg; rfl; rfl; rfl; exact rd_go; rfl) | refine q_skip rfl rfl rfl rfl ?_ | (refine q_end ?_; clear H; intro _ H) | ((first | refine l_st (z_box H ?_) | refine l_st (s_alloc H rfl ?_)); clear H; intro _ _ _ H) | (refine l_st (t_build0 H rfl ?_); clear H; intro _ _ _ _ H) | (refine l_st (z_sto H ?_); clear H; intro _ H) | ((first | refine c_cond ⟨rfl, rfl⟩ ?_ ?_ | refine c_ncond ⟨rfl, rfl⟩ ?_ ?_ | refine l_split rfl rfl ?_ ?_ | refine q_split rfl rfl ?_ ?_ | refine l_nsplit rfl rfl ?_ ?_ | refine q_nsplit rfl rfl ?_ ?_) <;> intro _ <;> try (exfalso; omega)))
      refine l_st (t_store_sl (j := 0) (dd := kSl 2 kExt) (xs := xs) (exts (orBm (p.dirty[i]'hi') (q.dirty[i]'hq)).1) H rfl mem_auto ⟨rfl, rfl⟩ (by omega) ⟨rfl, rfl⟩ ((H.fact _ mem_auto).imp fun w' h => ⟨A9, c9, rfl, s3, s4, h⟩) ?_)
      clear H; intro _ H
      repeat' (first | (apply l_rd; exact rd_go; rfl) | (apply q_rd; exact rd_go; rfl) | refine stp ?_ | refine bk_o rfl ?_ | refine c_true ⟨rfl, rfl⟩ ?_ | refine c_false ⟨rfl, rfl⟩ ?_ | (apply l_rdg; rfl; rfl; rfl; exact rd_go; rfl) | refine l_skip rfl rfl rfl rfl ?_ | (apply q_rdg; rfl; rfl; rfl; exact rd_go; rfl) | refine q_skip rfl rfl rfl rfl ?_ | (refine q_end ?_; clear H; intro _ H) | ((first | refine l_st (z_box H ?_) | refine l_st (s_alloc H rfl ?_)); clear H; intro _ _ _ H) | (refine l_st (t_build0 H rfl ?_); clear H; intro _ _ _ _ H) | (refine l_st (z_sto H ?_); clear H; intro _ H) | ((first | refine c_cond ⟨rfl, rfl⟩ ?_ ?_ | refine c_ncond ⟨rfl, rfl⟩ ?_ ?_ | refine l_split rfl rfl ?_ ?_ | refine q_split rfl rfl ?_ ?_ | refine l_nsplit rfl rfl ?_ ?_ | refine q_nsplit rfl rfl ?_ ?_) <;> intro _ <;> try (exfalso; omega)))
      refine lk_n rfl (n' := p.dirty.length - (i + 1)) (by omega) ⟨i + 1, xs.set i (exts (orBm (p.dirty[i]'hi') (q.dirty[i]'hq)).1), cs.set i (.slice A9 (exts (orBm (p.dirty[i]'hi') (q.dirty[i]'hq)).1).length c9), rfl, hi', rfl, by rw [List.length_set]; exact hxl, fun j hj => ?_, H.weak (.cons _ (List.Sublist.refl _)) (List.Sublist.refl _) (by simp)⟩
      rcases Nat.lt_succ_iff_lt_or_eq.1 hj with h | rfl
      · rw [List.getElem?_set_ne (by omega)]; exact hxs j h
      · rw [List.getElem?_set_self (by omega), hb]; rfl
  · repeat' (first | (apply l_rd; exact rd_go; rfl) | (apply q_rd; exact rd_go; rfl) | refine stp ?_ | refine bk_o rfl ?_ | refine c_true ⟨rfl, rfl⟩ ?_ | refine c_false ⟨rfl, rfl⟩ ?_ | (apply l_rdg; rfl; rfl; rfl; exact rd_go; rfl) | refine l_skip rfl rfl rfl rfl ?_ | (apply q_rdg; rfl; rfl; rfl; exact rd_go; rfl) | refine q_skip rfl rfl rfl rfl ?_ | (refine q_end ?_; clear H; intro _ H) | ((first | refine l_st (z_box H ?_) | refine l_st (s_alloc H rfl ?_)); clear H; intro _ _ _ H) | (refine l_st (t_build0 H rfl ?_); clear H; intro _ _ _ _ H) | (refine l_st (z_sto H ?_); clear H; intro _ H) | ((first | refine c_cond ⟨rfl, rfl⟩ ?_ ?_ | refine c_ncond ⟨rfl, rfl⟩ ?_ ?_ | refine l_split rfl rfl ?_ ?_ | refine q_split rfl rfl ?_ ?_ | refine l_nsplit rfl rfl ?_ ?_ | refine q_nsplit rfl rfl ?_ ?_) <;> intro _ <;> try (exfalso; omega)))
    have hi2 : i = p.dirty.length := by omega
    refine ret1 H rfl rfl rfl ?_
    have e : xs = betw p q := by
      apply List.ext_getElem?; intro j
      rcases Nat.lt_or_ge j i with h | h
      · exact hxs j h
      · rw [List.getElem?_eq_none (by omega), List.getElem?_eq_none (by omega)]
    subst e
    exact H.fresh (j := 0) rfl mem_auto (by omega)
end Go.Proofs.YtiolpldihoghiaaDoor

namespace Go.Proofs.YtiolpldihoghiaaDoor
open Go.RowKit
set_option linter.unusedVariables false
set_option linter.unusedSimpArgs false
set_option maxHeartbeats 4000000
theorem ca_Pt2 {k : FuncId} {vs : List Value} {w1 : World} {v : Value} (h : Ret Tryd.prog k vs w1 (fun u _ => u = v) := by first | exact ptCheck_any _ _ _ _ _ _ _ _ _ (by assumption) (by omega) (by omega) (H.fact _ mem_auto) (H.fact _ mem_auto) (H.fact _ mem_auto) | exact rPtCheck_any _ _ _ _ _ _ _ _ _ (by assumption) (by omega) (by omega) (H.fact _ mem_auto) (H.fact _ mem_auto) (H.fact _ mem_auto) | exact alike_any _ _ _ _ _ _ _ _ (H.fact _ mem_auto) (H.fact _ mem_auto) | exact sameSizes_any _ _ _ _ _ _ _ _ _ _ _ _ _ _ (H.fact _ mem_auto) (H.fact _ mem_auto)) : Ret Tryd.prog k vs w1 (fun u _ => u = v) := h
/-- Lists of extents and a number are handed back. -/
def ExtsRet (M : Nat → Prop) (w : World) (r : List (List Ext) × Int) (v : Value) (w' : World) : Prop :=
  ∃ v1, v = .tuple #[v1, .int .i64 r.2] ∧ Fresh (kSl 2 kExt) 68 1 M w r.1 v1 w'
theorem exts_ret0 {w0 w : World} {M : Nat → Prop} {L : List Loc} {O : List Own} {F : List (World → Prop)} {r : List (List Ext) × Int} {e : Int} (H : Hp w0 M w L O F) (hr : r = ([], e)) : ExtsRet M w0 r (.tuple #[.slice none 0 0, .int .i64 e]) w := by
  subst hr; exact ⟨_, rfl, H.fresh_nil⟩
def kPtW : Rp Pt := fun w x cs => ∃ A1 c1 A2 c2 A3 c3, cs = [.int .i64 x.site, .slice A1 x.lin.length c1, .slice A2 x.dirty.length c2, .slice A3 x.im.length c3] ∧ rng .i64 x.site ∧ Row kSpan 3 A1 x.lin w ∧ Row kBm 2 A2 x.dirty w ∧ Row kVol 1 A3 x.im w
theorem Stab.ptW {w : World} {M : Nat → Prop} {x : Pt} {cs : List Value} (h : Stab w M (fun w' => kPtW w' x cs)) :
    ∃ A1 c1 A2 c2 A3 c3, cs = [.int .i64 x.site, .slice A1 x.lin.length c1, .slice A2 x.dirty.length c2, .slice A3 x.im.length c3] ∧ rng .i64 x.site ∧ Stab w M (Row kSpan 3 A1 x.lin) ∧ Stab w M (Row kBm 2 A2 x.dirty) ∧ Stab w M (Row kVol 1 A3 x.im) := by
  obtain ⟨A1, c1, A2, c2, A3, c3, h1, h0, _⟩ := h.now
  have key : Stab w M fun w' => Row kSpan 3 A1 x.lin w' ∧ Row kBm 2 A2 x.dirty w' ∧ Row kVol 1 A3 x.im w' := fun w' hs hw => by
    obtain ⟨B1, d1, B2, d2, B3, d3, q1, _, r1, r2, r3⟩ := h w' hs hw
    rw [h1] at q1
    simp only [List.cons.injEq, Value.slice.injEq] at q1
    obtain ⟨_, ⟨e1, _, _⟩, ⟨e2, _, _⟩, ⟨e3, _, _⟩, _⟩ := q1
    subst e1; subst e2; subst e3
    exact ⟨r1, r2, r3⟩
  exact ⟨A1, c1, A2, c2, A3, c3, h1, h0, key.imp fun _ h => h.1, key.imp fun _ h => h.2.1, key.imp fun _ h => h.2.2⟩
theorem Hp.openPtW {w0 w : World} {M : Nat → Prop} {L : List Loc} {O : List Own} {F : List (World → Prop)} {A : Option Addr} {xs : List Pt} {i : Nat} {x : Pt} (H : Hp w0 M w L O F) (hm : Row kPtW 4 A xs ∈ F) (hi : xs[i]? = some x) :
    ∃ A1 c1 A2 c2 A3 c3, rng .i64 x.site ∧ Hp w0 M w L O (Row kSpan 3 A1 x.lin :: Row kBm 2 A2 x.dirty :: Row kVol 1 A3 x.im :: Cel A i 4 [.int .i64 x.site, .slice A1 x.lin.length c1, .slice A2 x.dirty.length c2, .slice A3 x.im.length c3] :: F) := by
  obtain ⟨cs, _, hd, H1⟩ := H.openE hm (by decide) hi
  obtain ⟨A1, c1, A2, c2, A3, c3, rfl, h0, h1, h2, h3⟩ := hd.ptW
  exact ⟨A1, c1, A2, c2, A3, c3, h0, ((H1.add h3).add h2).add h1⟩
theorem PtOk.words {p : Pt} (h : PtOk p) : ∀ b ∈ p.dirty, b.words.length ≤ 100000 := fun b hb => by
  obtain ⟨i, hi, rfl⟩ := List.mem_iff_getElem.1 hb
  obtain ⟨h1, h2, h3⟩ := Bm.fine_len (h.bm i hi (by rw [← h.len]; exact hi)).1
  omega
section
variable (M : Nat → Prop) (w : World) (hM : ∀ b, M b → b < w.heap.size) (p q : Pt) (A1 A2 A3 B1 B2 B3 : Option Addr) (c1 c2 c3 d1 d2 d3 : Nat) (hs : rng .i64 p.site) (hd : p.dirty.length ≤ 1000000) (hi : p.im.length ≤ 1000000) (hs' : rng .i64 q.site) (hd' : q.dirty.length ≤ 1000000) (hi' : q.im.length ≤ 1000000)
  (h1 : Stab w M (Row kSpan 3 A1 p.lin)) (h2 : Stab w M (Row kBm 2 A2 p.dirty)) (h3 : Stab w M (Row kVol 1 A3 p.im)) (k1 : Stab w M (Row kSpan 3 B1 q.lin)) (k2 : Stab w M (Row kBm 2 B2 q.dirty)) (k3 : Stab w M (Row kVol 1 B3 q.im)) (hT : Stab w M TabF)
include hM hs hd hi hs' hd' hi' h1 h2 h3 k1 k2 k3
theorem rBetween_any :
    Ret Tryd.prog 48 [.agg [.int .i64 p.site, .slice A1 p.lin.length c1, .slice A2 p.dirty.length c2, .slice A3 p.im.length c3].toArray, .agg [.int .i64 q.site, .slice B1 q.lin.length d1, .slice B2 q.dirty.length d2, .slice B3 q.im.length d3].toArray] w (ExtsRet M w (betwSp p q)) := by
  refine enter (M := M) (F := [Row kSpan 3 A1 p.lin, Row kBm 2 A2 p.dirty, Row kVol 1 A3 p.im, Row kSpan 3 B1 q.lin, Row kBm 2 B2 q.dirty, Row kVol 1 B3 q.im]) Tryd.func48 rfl rfl rfl (by simpa using ⟨h1, h2, h3, k1, k2, k3⟩) fun H => ?_
  repeat' (first | (apply l_rd; exact rd_go; rfl) | (apply q_rd; exact rd_go; rfl) | refine stp ?_ | refine bk_o rfl ?_ | refine c_true ⟨rfl, rfl⟩ ?_ | refine c_false ⟨rfl, rfl⟩ ?_ | (apply l_rdg; rfl; rfl; rfl; exact rd_go; rfl) | refine l_skip rfl rfl rfl rfl ?_ | (apply q_rdg; rfl; rfl; rfl; exact rd_go; rfl) | refine q_skip rfl rfl rfl rfl ?_ | refine c_draw H (by kernel_rfl) ?_ | (refine q_end ?_; clear H; intro _ H) | ((first | refine l_st (z_box H ?_) | refine l_st (s_alloc H rfl ?_)); clear H; intro _ _ _ H) | (refine l_st (t_build0 H rfl ?_); clear H; intro _ _ _ _ H) | (refine l_st (z_sto H ?_); clear H; intro _ H) | ((first | refine c_cond ⟨rfl, rfl⟩ ?_ ?_ | refine c_ncond ⟨rfl, rfl⟩ ?_ ?_ | refine l_split rfl rfl ?_ ?_ | refine q_split rfl rfl ?_ ?_ | refine l_nsplit rfl rfl ?_ ?_ | refine q_nsplit rfl rfl ?_ ?_) <;> intro _ <;> try (exfalso; omega)) | (refine l_st (k_call1 evs_auto H ca_Pt2 rfl ?_); clear H; intro _ _ H) | (refine l_st (k_callg1 evs_auto rfl rfl rfl H ca_Pt2 rfl ?_); clear H; intro _ _ H) | refine kq_call1 evs_auto H (fun _ H => ca_Pt2) rfl ?_ | refine kq_callg1 evs_auto rfl rfl rfl H (fun _ H => ca_Pt2) rfl ?_)
  · refine ret2 (v := .slice _ _ _) (v' := .int _ _) H rfl rfl rfl rfl (exts_ret0 H ?_); unfold betwSp; rw [if_pos (by assumption)]
  · refine ret2 (v := .slice _ _ _) (v' := .int _ _) H rfl rfl rfl rfl (exts_ret0 H ?_); unfold betwSp; rw [if_neg (by assumption), if_pos (by assumption)]
  · refine ret2 (v := .slice _ _ _) (v' := .int _ _) H rfl rfl rfl rfl (exts_ret0 H ?_); unfold betwSp; rw [if_neg (by assumption), if_neg (by assumption), if_pos (by assumption)]
  · have hp := ptErr_zero (p := p) (by omega)
    have hq := ptErr_zero (p := q) (by omega)
    have hsz : sizesOf p.im = sizesOf q.im := by assumption
    refine l_st (k_call evs_auto H (rbetween_any _ _ (H.mu_lt hM) p q A2 A3 B2 B3 c2 c3 d2 d3 _ _ _ _ hp hq hsz (H.fact _ mem_auto) (H.fact _ mem_auto) (H.fact _ mem_auto)) rfl ?_)
    rintro _ w1 ⟨v1, v2, rfl, hf⟩ hb _
    obtain ⟨A, c, cs, rfl, _, _, H1⟩ := H.take' hb hf
    clear H; have H := H1; clear H1
    repeat' (first | (apply l_rd; exact rd_go; rfl) | (apply q_rd; exact rd_go; rfl) | refine stp ?_ | refine bk_o rfl ?_ | refine c_true ⟨rfl, rfl⟩ ?_ | refine c_false ⟨rfl, rfl⟩ ?_ | (apply l_rdg; rfl; rfl; rfl; exact rd_go; rfl) | refine l_skip rfl rfl rfl rfl ?_ | (apply q_rdg; rfl; rfl; rfl; exact rd_go; rfl) | refine q_skip rfl rfl rfl rfl ?_ | refine c_draw H (by kernel_rfl) ?_ | (refine q_end ?_; clear H; intro _ H) | ((first | refine l_st (z_box H ?_) | refine l_st (s_alloc H rfl ?_)); clear H; intro _ _ _ H) | (refine l_st (t_build0 H rfl ?_); clear H; intro _ _ _ _ H) | (refine l_st (z_sto H ?_); clear H; intro _ H) | ((first | refine c_cond ⟨rfl, rfl⟩ ?_ ?_ | refine c_ncond ⟨rfl, rfl⟩ ?_ ?_ | refine l_split rfl rfl ?_ ?_ | refine q_split rfl rfl ?_ ?_ | refine l_nsplit rfl rfl ?_ ?_ | refine q_nsplit rfl rfl ?_ ?_) <;> intro _ <;> try (exfalso; omega)) | (refine l_st (k_call1 evs_auto H ca_Pt2 rfl ?_); clear H; intro _ _ H) | (refine l_st (k_callg1 evs_auto rfl rfl rfl H ca_Pt2 rfl ?_); clear H; intro _ _ H) | refine kq_call1 evs_auto H (fun _ H => ca_Pt2) rfl ?_ | refine kq_callg1 evs_auto rfl rfl rfl H (fun _ H => ca_Pt2) rfl ?_)
    refine ret2 (v := .slice _ _ _) (v' := .int _ _) H rfl rfl rfl rfl ?_
    have e : betwSp p q = (betw p q, 0) := by unfold betwSp; rw [if_neg (by assumption), if_neg (by assumption), if_neg (by simpa using hsz)]
    rw [e]
    exact ⟨_, rfl, H.fresh (j := 0) rfl (List.mem_cons_self ..) rfl⟩
include hT
theorem between_any :
    Ret Tryd.prog 47 [.agg [.int .i64 p.site, .slice A1 p.lin.length c1, .slice A2 p.dirty.length c2, .slice A3 p.im.length c3].toArray, .agg [.int .i64 q.site, .slice B1 q.lin.length d1, .slice B2 q.dirty.length d2, .slice B3 q.im.length d3].toArray] w (ExtsRet M w (betwSp p q)) := by
  refine enter (M := M) (F := [Row kSpan 3 A1 p.lin, Row kBm 2 A2 p.dirty, Row kVol 1 A3 p.im, Row kSpan 3 B1 q.lin, Row kBm 2 B2 q.dirty, Row kVol 1 B3 q.im, TabF]) Tryd.func47 rfl rfl rfl (by simpa using ⟨h1, h2, h3, k1, k2, k3, hT⟩) fun H => ?_
  repeat' (first | (apply l_rd; exact rd_go; rfl) | (apply q_rd; exact rd_go; rfl) | refine stp ?_ | refine bk_o rfl ?_ | refine c_true ⟨rfl, rfl⟩ ?_ | refine c_false ⟨rfl, rfl⟩ ?_ | (apply l_rdg; rfl; rfl; rfl; exact rd_go; rfl) | refine l_skip rfl rfl rfl rfl ?_ | (apply q_rdg; rfl; rfl; rfl; exact rd_go; rfl) | refine q_skip rfl rfl rfl rfl ?_ | refine c_draw H (by kernel_rfl) ?_ | (refine q_end ?_; clear H; intro _ H) | ((first | refine l_st (z_box H ?_) | refine l_st (s_alloc H rfl ?_)); clear H; intro _ _ _ H) | (refine l_st (t_build0 H rfl ?_); clear H; intro _ _ _ _ H) | (refine l_st (z_sto H ?_); clear H; intro _ H) | ((first | refine c_cond ⟨rfl, rfl⟩ ?_ ?_ | refine c_ncond ⟨rfl, rfl⟩ ?_ ?_ | refine l_split rfl rfl ?_ ?_ | refine q_split rfl rfl ?_ ?_ | refine l_nsplit rfl rfl ?_ ?_ | refine q_nsplit rfl rfl ?_ ?_) <;> intro _ <;> try (exfalso; omega)) | (refine l_st (k_call1 evs_auto H ca_Pt2 rfl ?_); clear H; intro _ _ H) | (refine l_st (k_callg1 evs_auto rfl rfl rfl H ca_Pt2 rfl ?_); clear H; intro _ _ H) | refine kq_call1 evs_auto H (fun _ H => ca_Pt2) rfl ?_ | refine kq_callg1 evs_auto rfl rfl rfl H (fun _ H => ca_Pt2) rfl ?_)
  refine l_st (s_slice2 H ⟨rfl, rfl⟩ ⟨rfl, rfl⟩ rfl rfl rfl rfl ?_)
  clear H; intro A c w1 _ H
  have g1 := H.fact (Row kSpan 3 A1 p.lin) mem_auto
  have g2 := H.fact (Row kBm 2 A2 p.dirty) mem_auto
  have g3 := H.fact (Row kVol 1 A3 p.im) mem_auto
  have g4 := H.fact (Row kSpan 3 B1 q.lin) mem_auto
  have g5 := H.fact (Row kBm 2 B2 q.dirty) mem_auto
  have g6 := H.fact (Row kVol 1 B3 q.im) mem_auto
  obtain ⟨_, _, H1⟩ := (H.add (f := Chunks kPtW 4 [p, q] _) (fun w' hs1 hw => chunks_two ⟨A1, c1, A2, c2, A3, c3, rfl, hs, g1 w' hs1 hw, g2 w' hs1 hw, g3 w' hs1 hw⟩ ⟨B1, d1, B2, d2, B3, d3, rfl, hs', g4 w' hs1 hw, g5 w' hs1 hw, g6 w' hs1 hw⟩ rfl rfl)).sealR (dd := kPtW) (xs := [p, q]) (List.mem_cons_self ..) hM (Nat.zero_lt_succ 3) rfl (by simp)
  clear H g1 g2 g3 g4 g5 g6; have H := H1; clear H1
  have H1 := H.weak (F' := [Row kPtW 4 A [p, q], Row kSpan 3 A1 p.lin, Row kBm 2 A2 p.dirty, Row kVol 1 A3 p.im, Row kSpan 3 B1 q.lin, Row kBm 2 B2 q.dirty, Row kVol 1 B3 q.im, TabF]) (List.Sublist.refl _) (List.Sublist.refl _) (by simp)
  clear H; have H := H1; clear H1
  repeat' (first | (apply l_rd; exact rd_go; rfl) | (apply q_rd; exact rd_go; rfl) | refine stp ?_ | refine bk_o rfl ?_ | refine c_true ⟨rfl, rfl⟩ ?_ | refine c_false ⟨rfl, rfl⟩ ?_ | (apply l_rdg; rfl; rfl; rfl; exact rd_go; rfl) | refine l_skip rfl rfl rfl rfl ?_ | (apply q_rdg; rfl; rfl; rfl; exact rd_go; rfl) | refine q_skip rfl rfl rfl rfl ?_ | refine c_draw H (by kernel_rfl) ?_ | (refine q_end ?_; clear H; intro _ H) | ((first | refine l_st (z_box H ?_) | refine l_st (s_alloc H rfl ?_)); clear H; intro _ _ _ H) | (refine l_st (t_build0 H rfl ?_); clear H; intro _ _ _ _ H) | (refine l_st (z_sto H ?_); clear H; intro _ H) | ((first | refine c_cond ⟨rfl, rfl⟩ ?_ ?_ | refine c_ncond ⟨rfl, rfl⟩ ?_ ?_ | refine l_split rfl rfl ?_ ?_ | refine q_split rfl rfl ?_ ?_ | refine l_nsplit rfl rfl ?_ ?_ | refine q_nsplit rfl rfl ?_ ?_) <;> intro _ <;> try (exfalso; omega)) | (refine l_st (k_call1 evs_auto H ca_Pt2 rfl ?_); clear H; intro _ _ H) | (refine l_st (k_callg1 evs_auto rfl rfl rfl H ca_Pt2 rfl ?_); clear H; intro _ _ H) | refine kq_call1 evs_auto H (fun _ H => ca_Pt2) rfl ?_ | refine kq_callg1 evs_auto rfl rfl rfl H (fun _ H => ca_Pt2) rfl ?_)
  refine c_loopk [13] [11, 12, 2, 3] (fun n vs w' => ∃ i : Nat, vs = [.int .i64 i] ∧ i ≤ 2 ∧ n = 2 - i ∧ (0 < i → ptErr p = 0) ∧ (1 < i → ptErr q = 0) ∧ Hp w M w' _ [] [Row kPtW 4 A [p, q], Row kSpan 3 A1 p.lin, Row kBm 2 A2 p.dirty, Row kVol 1 A3 p.im, Row kSpan 3 B1 q.lin, Row kBm 2 B2 q.dirty, Row kVol 1 B3 q.im, TabF]) _ [_, _, _, _] rfl
    ⟨0, rfl, by omega, rfl, fun h => by omega, fun h => by omega, H⟩ ?_
  clear H
  rintro n _ E0 w2 ⟨i, rfl, hi2, rfl, hp0, hq0, H⟩
  by_cases hlt : i < 2
  · obtain ⟨x, hx, hxd, hxi, hx0, hx1⟩ : ∃ x, [p, q][i]? = some x ∧ x.dirty.length ≤ 1000000 ∧ x.im.length ≤ 1000000 ∧ (i = 0 → x = p) ∧ (i = 1 → x = q) := by
      rcases (by omega : i = 0 ∨ i = 1) with rfl | rfl
      · exact ⟨p, rfl, hd, hi, fun _ => rfl, fun h => by omega⟩
      · exact ⟨q, rfl, hd', hi', fun h => by omega, fun _ => rfl⟩
    obtain ⟨X1, y1, X2, y2, X3, y3, hxs, H1⟩ := H.openPtW (A := A) (xs := [p, q]) mem_auto hx
    clear H; have H := H1; clear H1
    repeat' (first | (apply l_rd; exact rd_go; rfl) | (apply q_rd; exact rd_go; rfl) | refine stp ?_ | refine bk_o rfl ?_ | refine c_true ⟨rfl, rfl⟩ ?_ | refine c_false ⟨rfl, rfl⟩ ?_ | (apply l_rdg; rfl; rfl; rfl; exact rd_go; rfl) | refine l_skip rfl rfl rfl rfl ?_ | (apply q_rdg; rfl; rfl; rfl; exact rd_go; rfl) | refine q_skip rfl rfl rfl rfl ?_ | refine c_draw H (by kernel_rfl) ?_ | (refine q_end ?_; clear H; intro _ H) | ((first | refine l_st (z_box H ?_) | refine l_st (s_alloc H rfl ?_)); clear H; intro _ _ _ H) | (refine l_st (t_build0 H rfl ?_); clear H; intro _ _ _ _ H) | (refine l_st (z_sto H ?_); clear H; intro _ H) | ((first | refine c_cond ⟨rfl, rfl⟩ ?_ ?_ | refine c_ncond ⟨rfl, rfl⟩ ?_ ?_ | refine l_split rfl rfl ?_ ?_ | refine q_split rfl rfl ?_ ?_ | refine l_nsplit rfl rfl ?_ ?_ | refine q_nsplit rfl rfl ?_ ?_) <;> intro _ <;> try (exfalso; omega)) | (refine l_st (k_call1 evs_auto H ca_Pt2 rfl ?_); clear H; intro _ _ H) | (refine l_st (k_callg1 evs_auto rfl rfl rfl H ca_Pt2 rfl ?_); clear H; intro _ _ H) | refine kq_call1 evs_auto H (fun _ H => ca_Pt2) rfl ?_ | refine kq_callg1 evs_auto rfl rfl rfl H (fun _ H => ca_Pt2) rfl ?_)
    · have hne : ptErr x ≠ 0 := by assumption
      refine ret2 (v := .slice _ _ _) (v' := .int _ _) H rfl rfl rfl rfl (exts_ret0 H ?_)
      unfold betwSp
      rcases (by omega : i = 0 ∨ i = 1) with h | h
      · rw [← hx0 h, if_pos hne]
      · rw [← hx1 h, if_neg (by rw [hp0 (by omega)]; omega), if_pos hne]
    · have hne : ¬ ptErr x ≠ 0 := by assumption
      exact lk_n rfl (n' := 2 - (i + 1)) (by omega) ⟨i + 1, rfl, by omega, rfl, fun h => by
          rcases (by omega : i = 0 ∨ i = 1) with h2 | h2
          · rw [← hx0 h2]; omega
          · exact hp0 (by omega), fun h => by rw [← hx1 (by omega)]; omega, H.weak (.cons _ (List.Sublist.refl _)) (List.Sublist.refl _) (by simp)⟩
  · have e0 := hp0 (by omega)
    have e1 := hq0 (by omega)
    repeat' (first | (apply l_rd; exact rd_go; rfl) | (apply q_rd; exact rd_go; rfl) | refine stp ?_ | refine bk_o rfl ?_ | refine c_true ⟨rfl, rfl⟩ ?_ | refine c_false ⟨rfl, rfl⟩ ?_ | (apply l_rdg; rfl; rfl; rfl; exact rd_go; rfl) | refine l_skip rfl rfl rfl rfl ?_ | (apply q_rdg; rfl; rfl; rfl; exact rd_go; rfl) | refine q_skip rfl rfl rfl rfl ?_ | refine c_draw H (by kernel_rfl) ?_ | (refine q_end ?_; clear H; intro _ H) | ((first | refine l_st (z_box H ?_) | refine l_st (s_alloc H rfl ?_)); clear H; intro _ _ _ H) | (refine l_st (t_build0 H rfl ?_); clear H; intro _ _ _ _ H) | (refine l_st (z_sto H ?_); clear H; intro _ H) | ((first | refine c_cond ⟨rfl, rfl⟩ ?_ ?_ | refine c_ncond ⟨rfl, rfl⟩ ?_ ?_ | refine l_split rfl rfl ?_ ?_ | refine q_split rfl rfl ?_ ?_ | refine l_nsplit rfl rfl ?_ ?_ | refine q_nsplit rfl rfl ?_ ?_) <;> intro _ <;> try (exfalso; omega)) | (refine l_st (k_call1 evs_auto H ca_Pt2 rfl ?_); clear H; intro _ _ H) | (refine l_st (k_callg1 evs_auto rfl rfl rfl H ca_Pt2 rfl ?_); clear H; intro _ _ H) | refine kq_call1 evs_auto H (fun _ H => ca_Pt2) rfl ?_ | refine kq_callg1 evs_auto rfl rfl rfl H (fun _ H => ca_Pt2) rfl ?_)
    · refine ret2 (v := .slice _ _ _) (v' := .int _ _) H rfl rfl rfl rfl (exts_ret0 H ?_)
      unfold betwSp; rw [if_neg (by omega), if_neg (by omega), if_pos (by assumption)]
    · have hp := ptErr_zero e0
      have hq := ptErr_zero e1
      have hsz : sizesOf p.im = sizesOf q.im := by assumption
      have hlen : p.im.length = q.im.length := by have := congrArg List.length hsz; simpa only [sizesOf_len] using this
      refine l_st (k_call evs_auto H (dmarked_any _ _ (H.mu_lt hM) p q A2 B2 c2 d2 _ _ _ _ _ _ (by rw [hp.len, hq.len, hlen]) hd (H.fact _ mem_auto) (H.fact _ mem_auto) (H.fact _ mem_auto) hp.words) rfl ?_)
      rintro _ w9 hf hb _
      obtain ⟨A9, c9, cs, rfl, _, _, H1⟩ := H.take' hb hf
      clear H; have H := H1; clear H1
      repeat' (first | (apply l_rd; exact rd_go; rfl) | (apply q_rd; exact rd_go; rfl) | refine stp ?_ | refine bk_o rfl ?_ | refine c_true ⟨rfl, rfl⟩ ?_ | refine c_false ⟨rfl, rfl⟩ ?_ | (apply l_rdg; rfl; rfl; rfl; exact rd_go; rfl) | refine l_skip rfl rfl rfl rfl ?_ | (apply q_rdg; rfl; rfl; rfl; exact rd_go; rfl) | refine q_skip rfl rfl rfl rfl ?_ | refine c_draw H (by kernel_rfl) ?_ | (refine q_end ?_; clear H; intro _ H) | ((first | refine l_st (z_box H ?_) | refine l_st (s_alloc H rfl ?_)); clear H; intro _ _ _ H) | (refine l_st (t_build0 H rfl ?_); clear H; intro _ _ _ _ H) | (refine l_st (z_sto H ?_); clear H; intro _ H) | ((first | refine c_cond ⟨rfl, rfl⟩ ?_ ?_ | refine c_ncond ⟨rfl, rfl⟩ ?_ ?_ | refine l_split rfl rfl ?_ ?_ | refine q_split rfl rfl ?_ ?_ | refine l_nsplit rfl rfl ?_ ?_ | refine q_nsplit rfl rfl ?_ ?_) <;> intro _ <;> try (exfalso; omega)) | (refine l_st (k_call1 evs_auto H ca_Pt2 rfl ?_); clear H; intro _ _ H) | (refine l_st (k_callg1 evs_auto rfl rfl rfl H ca_Pt2 rfl ?_); clear H; intro _ _ H) | refine kq_call1 evs_auto H (fun _ H => ca_Pt2) rfl ?_ | refine kq_callg1 evs_auto rfl rfl rfl H (fun _ H => ca_Pt2) rfl ?_)
      refine ret2 (v := .slice _ _ _) (v' := .int _ _) H rfl rfl rfl rfl ?_
      have e : betwSp p q = (betw p q, 0) := by unfold betwSp; rw [if_neg (by omega), if_neg (by omega), if_neg (by simpa using hsz)]
      rw [e]
      exact ⟨_, rfl, H.fresh (j := 0) rfl (List.mem_cons_self ..) rfl⟩
end
end Go.Proofs.YtiolpldihoghiaaDoor
