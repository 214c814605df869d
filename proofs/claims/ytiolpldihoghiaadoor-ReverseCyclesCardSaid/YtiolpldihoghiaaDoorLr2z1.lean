/- Lists of sectors and of writes are compared: the contracts. The engine, part 27: three ready operations; a cut behind a piece of code. Over any program. The reference's Cycle: the contract. Printed by tools/cy4.py. ReverseUndoes: the walk. ReverseCycles: the walk. More of the program's data types, opened. ReverseCycles: for every input of the row's form the law answers true and leaves its input alone. -/
import Derived.Test.YtiolpldihoghiaaDoorC9
import Derived.Test.YtiolpldihoghiaaDoorC5
import Derived.Test.YtiolpldihoghiaaDoorC8
import Derived.Test.YtiolpldihoghiaaDoorC10
import Derived.Test.YtiolpldihoghiaaDoorCards
import Derived.Test.YtiolpldihoghiaaDoorTie
namespace Go.Proofs.YtiolpldihoghiaaDoor
open Go.RowKit
set_option linter.unusedVariables false
set_option linter.unusedSimpArgs false
set_option maxHeartbeats 4000000
theorem ca_Sw1 {k : FuncId} {vs : List Value} {w1 : World} {v : Value} (h : Ret Tryd.prog k vs w1 (fun u _ => u = v) := by first | exact sameSecs_any _ _ _ _ _ _ _ _ (H.fact _ mem_auto) (H.fact _ mem_auto)) : Ret Tryd.prog k vs w1 (fun u _ => u = v) := h
instance : DecidableEq Wr := fun a b => decidable_of_iff (a.vol = b.vol ∧ a.start = b.start ∧ a.data = b.data) ⟨fun ⟨h1, h2, h3⟩ => by cases a; cases b; simp at h1 h2 h3; simp [h1, h2, h3], fun h => by subst h; exact ⟨rfl, rfl, rfl⟩⟩
theorem Wr.eq_iff {a b : Wr} : a = b ↔ a.vol = b.vol ∧ a.start = b.start ∧ a.data = b.data := ⟨fun h => by subst h; exact ⟨rfl, rfl, rfl⟩, fun ⟨h1, h2, h3⟩ => by cases a; cases b; simp at h1 h2 h3; simp [h1, h2, h3]⟩
theorem sameSecs_any (M : Nat → Prop) (xs ys : List Sec) (A B : Option Addr) (c d : Nat) (w : World) (hF : Stab w M (Row kSec 8 A xs)) (hF' : Stab w M (Row kSec 8 B ys)) :
    Ret Tryd.prog 108 [.slice A xs.length c, .slice B ys.length d] w fun v _ => v = .bool (decide (xs = ys)) := by
  have hl := hF.now.len
  have hx := sec_ok hF
  have hy := sec_ok hF'
  refine enter (M := M) (F := [Row kSec 8 A xs, Row kSec 8 B ys]) Tryd.func108 rfl rfl rfl (by simpa using ⟨hF, hF'⟩) fun H => ?_
  repeat' (first | (apply l_rd; exact rd_go; rfl) | (apply q_rd; exact rd_go; rfl) | refine stp ?_ | refine bk_o rfl ?_ | refine c_true ⟨rfl, rfl⟩ ?_ | refine c_false ⟨rfl, rfl⟩ ?_ | (apply l_rdg; rfl; rfl; rfl; exact rd_go; rfl) | refine l_skip rfl rfl rfl rfl ?_ | (apply q_rdg; rfl; rfl; rfl; exact rd_go; rfl) | refine q_skip rfl rfl rfl rfl ?_ | refine c_draw H (by kernel_rfl) ?_ | (refine q_end ?_; clear H; intro _ H) | ((first | refine l_st (z_box H ?_) | refine l_st (s_alloc H rfl ?_)); clear H; intro _ _ _ H) | (refine l_st (t_build0 H rfl ?_); clear H; intro _ _ _ _ H) | (refine l_st (z_sto H ?_); clear H; intro _ H) | ((first | refine c_cond ⟨rfl, rfl⟩ ?_ ?_ | refine c_ncond ⟨rfl, rfl⟩ ?_ ?_ | refine l_split rfl rfl ?_ ?_ | refine q_split rfl rfl ?_ ?_ | refine l_nsplit rfl rfl ?_ ?_ | refine q_nsplit rfl rfl ?_ ?_) <;> intro _ <;> try (exfalso; omega)) | (refine l_st (k_call1 evs_auto H ca_Sw1 rfl ?_); clear H; intro _ _ H) | (refine l_st (k_callg1 evs_auto rfl rfl rfl H ca_Sw1 rfl ?_); clear H; intro _ _ H) | refine kq_call1 evs_auto H (fun _ H => ca_Sw1) rfl ?_ | refine kq_callg1 evs_auto rfl rfl rfl H (fun _ H => ca_Sw1) rfl ?_)
  · refine ret1 H rfl rfl rfl ?_
    refine bv ?_
    have : ¬ xs = ys := fun e => by subst e; contradiction
    simp [this]
  have hlen : xs.length = ys.length := by omega
  refine c_loopk [5] [0, 1] (fun n vs w' => ∃ i : Nat, vs = [.int .i64 i] ∧ i ≤ xs.length ∧ n = xs.length - i ∧ xs.take i = ys.take i ∧ Hp w M w' [] [] _) _ [_, _] rfl ⟨0, rfl, Nat.zero_le _, rfl, rfl, H⟩ ?_
  clear H
  rintro n _ E0 w2 ⟨i, rfl, hi, rfl, ht, H⟩
  by_cases hi' : i < xs.length
  · have hi2 : i < ys.length := by omega
    repeat' (first | (apply l_rd; exact rd_go; rfl) | (apply q_rd; exact rd_go; rfl) | refine stp ?_ | refine bk_o rfl ?_ | refine c_true ⟨rfl, rfl⟩ ?_ | refine c_false ⟨rfl, rfl⟩ ?_ | (apply l_rdg; rfl; rfl; rfl; exact rd_go; rfl) | refine l_skip rfl rfl rfl rfl ?_ | (apply q_rdg; rfl; rfl; rfl; exact rd_go; rfl) | refine q_skip rfl rfl rfl rfl ?_ | refine c_draw H (by kernel_rfl) ?_ | (refine q_end ?_; clear H; intro _ H) | ((first | refine l_st (z_box H ?_) | refine l_st (s_alloc H rfl ?_)); clear H; intro _ _ _ H) | (refine l_st (t_build0 H rfl ?_); clear H; intro _ _ _ _ H) | (refine l_st (z_sto H ?_); clear H; intro _ H) | ((first | refine c_cond ⟨rfl, rfl⟩ ?_ ?_ | refine c_ncond ⟨rfl, rfl⟩ ?_ ?_ | refine l_split rfl rfl ?_ ?_ | refine q_split rfl rfl ?_ ?_ | refine l_nsplit rfl rfl ?_ ?_ | refine q_nsplit rfl rfl ?_ ?_) <;> intro _ <;> try (exfalso; omega)) | (refine l_st (k_call1 evs_auto H ca_Sw1 rfl ?_); clear H; intro _ _ H) | (refine l_st (k_callg1 evs_auto rfl rfl rfl H ca_Sw1 rfl ?_); clear H; intro _ _ H) | refine kq_call1 evs_auto H (fun _ H => ca_Sw1) rfl ?_ | refine kq_callg1 evs_auto rfl rfl rfl H (fun _ H => ca_Sw1) rfl ?_)
    apply q_rd
    exact rd_ne_sec (s := xs[i]) (r := ys[i]) ⟨rfl, rfl⟩ ⟨rfl, rfl⟩ (hx _ (List.getElem_mem hi')).1 (hy _ (List.getElem_mem hi2)).1
    rfl
    repeat' (first | (apply l_rd; exact rd_go; rfl) | (apply q_rd; exact rd_go; rfl) | refine stp ?_ | refine bk_o rfl ?_ | refine c_true ⟨rfl, rfl⟩ ?_ | refine c_false ⟨rfl, rfl⟩ ?_ | (apply l_rdg; rfl; rfl; rfl; exact rd_go; rfl) | refine l_skip rfl rfl rfl rfl ?_ | (apply q_rdg; rfl; rfl; rfl; exact rd_go; rfl) | refine q_skip rfl rfl rfl rfl ?_ | refine c_draw H (by kernel_rfl) ?_ | (refine q_end ?_; clear H; intro _ H) | ((first | refine l_st (z_box H ?_) | refine l_st (s_alloc H rfl ?_)); clear H; intro _ _ _ H) | (refine l_st (t_build0 H rfl ?_); clear H; intro _ _ _ _ H) | (refine l_st (z_sto H ?_); clear H; intro _ H) | ((first | refine c_cond ⟨rfl, rfl⟩ ?_ ?_ | refine c_ncond ⟨rfl, rfl⟩ ?_ ?_ | refine l_split rfl rfl ?_ ?_ | refine q_split rfl rfl ?_ ?_ | refine l_nsplit rfl rfl ?_ ?_ | refine q_nsplit rfl rfl ?_ ?_) <;> intro _ <;> try (exfalso; omega)) | (refine l_st (k_call1 evs_auto H ca_Sw1 rfl ?_); clear H; intro _ _ H) | (refine l_st (k_callg1 evs_auto rfl rfl rfl H ca_Sw1 rfl ?_); clear H; intro _ _ H) | refine kq_call1 evs_auto H (fun _ H => ca_Sw1) rfl ?_ | refine kq_callg1 evs_auto rfl rfl rfl H (fun _ H => ca_Sw1) rfl ?_)
    · refine ret1 H rfl rfl rfl ?_
      refine bv ?_
      have hne : xs[i] ≠ ys[i] := by assumption
      have : ¬ xs = ys := fun e => hne (by simp [e])
      simp [this]
    · have hxy : ¬ xs[i] ≠ ys[i] := by assumption
      exact lk_n rfl (n' := xs.length - (i + 1)) (by omega) ⟨i + 1, rfl, hi', rfl, take_step hi' hi2 ht (Classical.not_not.1 hxy), H⟩
  · repeat' (first | (apply l_rd; exact rd_go; rfl) | (apply q_rd; exact rd_go; rfl) | refine stp ?_ | refine bk_o rfl ?_ | refine c_true ⟨rfl, rfl⟩ ?_ | refine c_false ⟨rfl, rfl⟩ ?_ | (apply l_rdg; rfl; rfl; rfl; exact rd_go; rfl) | refine l_skip rfl rfl rfl rfl ?_ | (apply q_rdg; rfl; rfl; rfl; exact rd_go; rfl) | refine q_skip rfl rfl rfl rfl ?_ | refine c_draw H (by kernel_rfl) ?_ | (refine q_end ?_; clear H; intro _ H) | ((first | refine l_st (z_box H ?_) | refine l_st (s_alloc H rfl ?_)); clear H; intro _ _ _ H) | (refine l_st (t_build0 H rfl ?_); clear H; intro _ _ _ _ H) | (refine l_st (z_sto H ?_); clear H; intro _ H) | ((first | refine c_cond ⟨rfl, rfl⟩ ?_ ?_ | refine c_ncond ⟨rfl, rfl⟩ ?_ ?_ | refine l_split rfl rfl ?_ ?_ | refine q_split rfl rfl ?_ ?_ | refine l_nsplit rfl rfl ?_ ?_ | refine q_nsplit rfl rfl ?_ ?_) <;> intro _ <;> try (exfalso; omega)) | (refine l_st (k_call1 evs_auto H ca_Sw1 rfl ?_); clear H; intro _ _ H) | (refine l_st (k_callg1 evs_auto rfl rfl rfl H ca_Sw1 rfl ?_); clear H; intro _ _ H) | refine kq_call1 evs_auto H (fun _ H => ca_Sw1) rfl ?_ | refine kq_callg1 evs_auto rfl rfl rfl H (fun _ H => ca_Sw1) rfl ?_)
    have e : xs = ys := take_all hlen (by rw [show xs.length = i from by omega]; exact ht)
    refine ret1 H rfl rfl rfl ?_
    refine bv ?_
    simp [e]
theorem sameVol_any (M : Nat → Prop) (xs ys : List Sec) (A B : Option Addr) (c d : Nat) (w : World) (hF : Stab w M (Row kSec 8 A xs)) (hF' : Stab w M (Row kSec 8 B ys)) :
    Ret Tryd.prog 64 [.slice A xs.length c, .slice B ys.length d] w fun v _ => v = .bool (decide (xs = ys)) := by
  have hl := hF.now.len
  have hx := sec_ok hF
  have hy := sec_ok hF'
  refine enter (M := M) (F := [Row kSec 8 A xs, Row kSec 8 B ys]) Tryd.func64 rfl rfl rfl (by simpa using ⟨hF, hF'⟩) fun H => ?_
  repeat' (first | (apply l_rd; exact rd_go; rfl) | (apply q_rd; exact rd_go; rfl) | refine stp ?_ | refine bk_o rfl ?_ | refine c_true ⟨rfl, rfl⟩ ?_ | refine c_false ⟨rfl, rfl⟩ ?_ | (apply l_rdg; rfl; rfl; rfl; exact rd_go; rfl) | refine l_skip rfl rfl rfl rfl ?_ | (apply q_rdg; rfl; rfl; rfl; exact rd_go; rfl) | refine q_skip rfl rfl rfl rfl ?_ | refine c_draw H (by kernel_rfl) ?_ | (refine q_end ?_; clear H; intro _ H) | ((first | refine l_st (z_box H ?_) | refine l_st (s_alloc H rfl ?_)); clear H; intro _ _ _ H) | (refine l_st (t_build0 H rfl ?_); clear H; intro _ _ _ _ H) | (refine l_st (z_sto H ?_); clear H; intro _ H) | ((first | refine c_cond ⟨rfl, rfl⟩ ?_ ?_ | refine c_ncond ⟨rfl, rfl⟩ ?_ ?_ | refine l_split rfl rfl ?_ ?_ | refine q_split rfl rfl ?_ ?_ | refine l_nsplit rfl rfl ?_ ?_ | refine q_nsplit rfl rfl ?_ ?_) <;> intro _ <;> try (exfalso; omega)) | (refine l_st (k_call1 evs_auto H ca_Sw1 rfl ?_); clear H; intro _ _ H) | (refine l_st (k_callg1 evs_auto rfl rfl rfl H ca_Sw1 rfl ?_); clear H; intro _ _ H) | refine kq_call1 evs_auto H (fun _ H => ca_Sw1) rfl ?_ | refine kq_callg1 evs_auto rfl rfl rfl H (fun _ H => ca_Sw1) rfl ?_)
  · refine ret1 H rfl rfl rfl ?_
    refine bv ?_
    have : ¬ xs = ys := fun e => by subst e; contradiction
    simp [this]
  have hlen : xs.length = ys.length := by omega
  refine c_loopk [5] [0, 1] (fun n vs w' => ∃ i : Nat, vs = [.int .i64 i] ∧ i ≤ xs.length ∧ n = xs.length - i ∧ xs.take i = ys.take i ∧ Hp w M w' [] [] _) _ [_, _] rfl ⟨0, rfl, Nat.zero_le _, rfl, rfl, H⟩ ?_
  clear H
  rintro n _ E0 w2 ⟨i, rfl, hi, rfl, ht, H⟩
  by_cases hi' : i < xs.length
  · have hi2 : i < ys.length := by omega
    repeat' (first | (apply l_rd; exact rd_go; rfl) | (apply q_rd; exact rd_go; rfl) | refine stp ?_ | refine bk_o rfl ?_ | refine c_true ⟨rfl, rfl⟩ ?_ | refine c_false ⟨rfl, rfl⟩ ?_ | (apply l_rdg; rfl; rfl; rfl; exact rd_go; rfl) | refine l_skip rfl rfl rfl rfl ?_ | (apply q_rdg; rfl; rfl; rfl; exact rd_go; rfl) | refine q_skip rfl rfl rfl rfl ?_ | refine c_draw H (by kernel_rfl) ?_ | (refine q_end ?_; clear H; intro _ H) | ((first | refine l_st (z_box H ?_) | refine l_st (s_alloc H rfl ?_)); clear H; intro _ _ _ H) | (refine l_st (t_build0 H rfl ?_); clear H; intro _ _ _ _ H) | (refine l_st (z_sto H ?_); clear H; intro _ H) | ((first | refine c_cond ⟨rfl, rfl⟩ ?_ ?_ | refine c_ncond ⟨rfl, rfl⟩ ?_ ?_ | refine l_split rfl rfl ?_ ?_ | refine q_split rfl rfl ?_ ?_ | refine l_nsplit rfl rfl ?_ ?_ | refine q_nsplit rfl rfl ?_ ?_) <;> intro _ <;> try (exfalso; omega)) | (refine l_st (k_call1 evs_auto H ca_Sw1 rfl ?_); clear H; intro _ _ H) | (refine l_st (k_callg1 evs_auto rfl rfl rfl H ca_Sw1 rfl ?_); clear H; intro _ _ H) | refine kq_call1 evs_auto H (fun _ H => ca_Sw1) rfl ?_ | refine kq_callg1 evs_auto rfl rfl rfl H (fun _ H => ca_Sw1) rfl ?_)
    apply q_rd
    exact rd_ne_sec (s := xs[i]) (r := ys[i]) ⟨rfl, rfl⟩ ⟨rfl, rfl⟩ (hx _ (List.getElem_mem hi')).1 (hy _ (List.getElem_mem hi2)).1
    rfl
    repeat' (first | (apply l_rd; exact rd_go; rfl) | (apply q_rd; exact rd_go; rfl) | refine stp ?_ | refine bk_o rfl ?_ | refine c_true ⟨rfl, rfl⟩ ?_ | refine c_false ⟨rfl, rfl⟩ ?_ | (apply l_rdg; rfl; rfl; rfl; exact rd_go; rfl) | refine l_skip rfl rfl rfl rfl ?_ | (apply q_rdg; rfl; rfl; rfl; exact rd_go; rfl) | refine q_skip rfl rfl rfl rfl ?_ | refine c_draw H (by kernel_rfl) ?_ | (refine q_end ?_; clear H; intro _ H) | ((first | refine l_st (z_box H ?_) | refine l_st (s_alloc H rfl ?_)); clear H; intro _ _ _ H) | (refine l_st (t_build0 H rfl ?_); clear H; intro _ _ _ _ H) | (refine l_st (z_sto H ?_); clear H; intro _ H) | ((first | refine c_cond ⟨rfl, rfl⟩ ?_ ?_ | refine c_ncond ⟨rfl, rfl⟩ ?_ ?_ | refine l_split rfl rfl ?_ ?_ | refine q_split rfl rfl ?_ ?_ | refine l_nsplit rfl rfl ?_ ?_ | refine q_nsplit rfl rfl ?_ ?_) <;> intro _ <;> try (exfalso; omega)) | (refine l_st (k_call1 evs_auto H ca_Sw1 rfl ?_); clear H; intro _ _ H) | (refine l_st (k_callg1 evs_auto rfl rfl rfl H ca_Sw1 rfl ?_); clear H; intro _ _ H) | refine kq_call1 evs_auto H (fun _ H => ca_Sw1) rfl ?_ | refine kq_callg1 evs_auto rfl rfl rfl H (fun _ H => ca_Sw1) rfl ?_)
    · refine ret1 H rfl rfl rfl ?_
      refine bv ?_
      have hne : xs[i] ≠ ys[i] := by assumption
      have : ¬ xs = ys := fun e => hne (by simp [e])
      simp [this]
    · have hxy : ¬ xs[i] ≠ ys[i] := by assumption
      exact lk_n rfl (n' := xs.length - (i + 1)) (by omega) ⟨i + 1, rfl, hi', rfl, take_step hi' hi2 ht (Classical.not_not.1 hxy), H⟩
  · repeat' (first | (apply l_rd; exact rd_go; rfl) | (apply q_rd; exact rd_go; rfl) | refine stp ?_ | refine bk_o rfl ?_ | refine c_true ⟨rfl, rfl⟩ ?_ | refine c_false ⟨rfl, rfl⟩ ?_ | (apply l_rdg; rfl; rfl; rfl; exact rd_go; rfl) | refine l_skip rfl rfl rfl rfl ?_ | (apply q_rdg; rfl; rfl; rfl; exact rd_go; rfl) | refine q_skip rfl rfl rfl rfl ?_ | refine c_draw H (by kernel_rfl) ?_ | (refine q_end ?_; clear H; intro _ H) | ((first | refine l_st (z_box H ?_) | refine l_st (s_alloc H rfl ?_)); clear H; intro _ _ _ H) | (refine l_st (t_build0 H rfl ?_); clear H; intro _ _ _ _ H) | (refine l_st (z_sto H ?_); clear H; intro _ H) | ((first | refine c_cond ⟨rfl, rfl⟩ ?_ ?_ | refine c_ncond ⟨rfl, rfl⟩ ?_ ?_ | refine l_split rfl rfl ?_ ?_ | refine q_split rfl rfl ?_ ?_ | refine l_nsplit rfl rfl ?_ ?_ | refine q_nsplit rfl rfl ?_ ?_) <;> intro _ <;> try (exfalso; omega)) | (refine l_st (k_call1 evs_auto H ca_Sw1 rfl ?_); clear H; intro _ _ H) | (refine l_st (k_callg1 evs_auto rfl rfl rfl H ca_Sw1 rfl ?_); clear H; intro _ _ H) | refine kq_call1 evs_auto H (fun _ H => ca_Sw1) rfl ?_ | refine kq_callg1 evs_auto rfl rfl rfl H (fun _ H => ca_Sw1) rfl ?_)
    have e : xs = ys := take_all hlen (by rw [show xs.length = i from by omega]; exact ht)
    refine ret1 H rfl rfl rfl ?_
    refine bv ?_
    simp [e]
theorem sameWrs_any (M : Nat → Prop) (xs ys : List Wr) (A B : Option Addr) (c d : Nat) (w : World) (hF : Stab w M (Row kWr 3 A xs)) (hF' : Stab w M (Row kWr 3 B ys)) :
    Ret Tryd.prog 59 [.slice A xs.length c, .slice B ys.length d] w fun v _ => v = .bool (decide (xs = ys)) := by
  have hl := hF.now.len
  refine enter (M := M) (F := [Row kWr 3 A xs, Row kWr 3 B ys]) Tryd.func59 rfl rfl rfl (by simpa using ⟨hF, hF'⟩) fun H => ?_
  repeat' (first | (apply l_rd; exact rd_go; rfl) | (apply q_rd; exact rd_go; rfl) | refine stp ?_ | refine bk_o rfl ?_ | refine c_true ⟨rfl, rfl⟩ ?_ | refine c_false ⟨rfl, rfl⟩ ?_ | (apply l_rdg; rfl; rfl; rfl; exact rd_go; rfl) | refine l_skip rfl rfl rfl rfl ?_ | (apply q_rdg; rfl; rfl; rfl; exact rd_go; rfl) | refine q_skip rfl rfl rfl rfl ?_ | refine c_draw H (by kernel_rfl) ?_ | (refine q_end ?_; clear H; intro _ H) | ((first | refine l_st (z_box H ?_) | refine l_st (s_alloc H rfl ?_)); clear H; intro _ _ _ H) | (refine l_st (t_build0 H rfl ?_); clear H; intro _ _ _ _ H) | (refine l_st (z_sto H ?_); clear H; intro _ H) | ((first | refine c_cond ⟨rfl, rfl⟩ ?_ ?_ | refine c_ncond ⟨rfl, rfl⟩ ?_ ?_ | refine l_split rfl rfl ?_ ?_ | refine q_split rfl rfl ?_ ?_ | refine l_nsplit rfl rfl ?_ ?_ | refine q_nsplit rfl rfl ?_ ?_) <;> intro _ <;> try (exfalso; omega)) | (refine l_st (k_call1 evs_auto H ca_Sw1 rfl ?_); clear H; intro _ _ H) | (refine l_st (k_callg1 evs_auto rfl rfl rfl H ca_Sw1 rfl ?_); clear H; intro _ _ H) | refine kq_call1 evs_auto H (fun _ H => ca_Sw1) rfl ?_ | refine kq_callg1 evs_auto rfl rfl rfl H (fun _ H => ca_Sw1) rfl ?_)
  · refine ret1 H rfl rfl rfl ?_
    refine bv ?_
    have : ¬ xs = ys := fun e => by subst e; contradiction
    simp [this]
  have hlen : xs.length = ys.length := by omega
  refine c_loopk [5] [0, 1] (fun n vs w' => ∃ i : Nat, vs = [.int .i64 i] ∧ i ≤ xs.length ∧ n = xs.length - i ∧ xs.take i = ys.take i ∧ Hp w M w' [] [] [Row kWr 3 A xs, Row kWr 3 B ys]) _ [_, _] rfl ⟨0, rfl, Nat.zero_le _, rfl, rfl, H⟩ ?_
  clear H
  rintro n _ E0 w2 ⟨i, rfl, hi, rfl, ht, H⟩
  by_cases hi' : i < xs.length
  · have hi2 : i < ys.length := by omega
    obtain ⟨A1, c1, _, _, _, _, H1⟩ := H.openWr (A := A) (xs := xs) (i := i) mem_auto hi'
    obtain ⟨A2, c2, _, _, _, _, H2⟩ := H1.openWr (A := B) (xs := ys) (i := i) mem_auto hi2
    clear H H1; have H := H2; clear H2
    repeat' (first | (apply l_rd; exact rd_go; rfl) | (apply q_rd; exact rd_go; rfl) | refine stp ?_ | refine bk_o rfl ?_ | refine c_true ⟨rfl, rfl⟩ ?_ | refine c_false ⟨rfl, rfl⟩ ?_ | (apply l_rdg; rfl; rfl; rfl; exact rd_go; rfl) | refine l_skip rfl rfl rfl rfl ?_ | (apply q_rdg; rfl; rfl; rfl; exact rd_go; rfl) | refine q_skip rfl rfl rfl rfl ?_ | refine c_draw H (by kernel_rfl) ?_ | (refine q_end ?_; clear H; intro _ H) | ((first | refine l_st (z_box H ?_) | refine l_st (s_alloc H rfl ?_)); clear H; intro _ _ _ H) | (refine l_st (t_build0 H rfl ?_); clear H; intro _ _ _ _ H) | (refine l_st (z_sto H ?_); clear H; intro _ H) | ((first | refine c_cond ⟨rfl, rfl⟩ ?_ ?_ | refine c_ncond ⟨rfl, rfl⟩ ?_ ?_ | refine l_split rfl rfl ?_ ?_ | refine q_split rfl rfl ?_ ?_ | refine l_nsplit rfl rfl ?_ ?_ | refine q_nsplit rfl rfl ?_ ?_) <;> intro _ <;> try (exfalso; omega)) | (refine l_st (k_call1 evs_auto H ca_Sw1 rfl ?_); clear H; intro _ _ H) | (refine l_st (k_callg1 evs_auto rfl rfl rfl H ca_Sw1 rfl ?_); clear H; intro _ _ H) | refine kq_call1 evs_auto H (fun _ H => ca_Sw1) rfl ?_ | refine kq_callg1 evs_auto rfl rfl rfl H (fun _ H => ca_Sw1) rfl ?_)
    all_goals first
    | (refine ret1 H rfl rfl rfl ?_
       refine bv ?_
       have : ¬ xs = ys := fun e => by
         have e2 : xs[i] = ys[i] := by simp [e]
         obtain ⟨e3, e4, e5⟩ := Wr.eq_iff.1 e2
         contradiction
       simp [this]
       done)
    | (have e2 : xs[i] = ys[i] := Wr.eq_iff.2 ⟨by omega, by omega, by assumption⟩
       exact lk_n rfl (n' := xs.length - (i + 1)) (by omega) ⟨i + 1, rfl, hi', rfl, take_step hi' hi2 ht e2, H.weak (List.Sublist.refl _) (List.Sublist.refl _) (by simp)⟩)
  · repeat' (first | (apply l_rd; exact rd_go; rfl) | (apply q_rd; exact rd_go; rfl) | refine stp ?_ | refine bk_o rfl ?_ | refine c_true ⟨rfl, rfl⟩ ?_ | refine c_false ⟨rfl, rfl⟩ ?_ | (apply l_rdg; rfl; rfl; rfl; exact rd_go; rfl) | refine l_skip rfl rfl rfl rfl ?_ | (apply q_rdg; rfl; rfl; rfl; exact rd_go; rfl) | refine q_skip rfl rfl rfl rfl ?_ | refine c_draw H (by kernel_rfl) ?_ | (refine q_end ?_; clear H; intro _ H) | ((first | refine l_st (z_box H ?_) | refine l_st (s_alloc H rfl ?_)); clear H; intro _ _ _ H) | (refine l_st (t_build0 H rfl ?_); clear H; intro _ _ _ _ H) | (refine l_st (z_sto H ?_); clear H; intro _ H) | ((first | refine c_cond ⟨rfl, rfl⟩ ?_ ?_ | refine c_ncond ⟨rfl, rfl⟩ ?_ ?_ | refine l_split rfl rfl ?_ ?_ | refine q_split rfl rfl ?_ ?_ | refine l_nsplit rfl rfl ?_ ?_ | refine q_nsplit rfl rfl ?_ ?_) <;> intro _ <;> try (exfalso; omega)) | (refine l_st (k_call1 evs_auto H ca_Sw1 rfl ?_); clear H; intro _ _ H) | (refine l_st (k_callg1 evs_auto rfl rfl rfl H ca_Sw1 rfl ?_); clear H; intro _ _ H) | refine kq_call1 evs_auto H (fun _ H => ca_Sw1) rfl ?_ | refine kq_callg1 evs_auto rfl rfl rfl H (fun _ H => ca_Sw1) rfl ?_)
    have e : xs = ys := take_all hlen (by rw [show xs.length = i from by omega]; exact ht)
    refine ret1 H rfl rfl rfl ?_
    refine bv ?_
    simp [e]
end Go.Proofs.YtiolpldihoghiaaDoor

namespace Go.Proofs.YtiolpldihoghiaaDoor
open Go.RowKit
set_option linter.unusedVariables false
set_option linter.unusedSimpArgs false
section
variable {P : Program} {N : Nat} {E : List (Nat × Value)} {ds : List Deferred} {ops : Array Oper} {Q Q' : Exit → Act → World → Prop} {w ws : World} {B : List Nat} {f : Nat} {li : List Bool}
theorem m_three {i j k : Nat} {oi oj ok : Oper} (hr : rdy ops li = [i, j, k]) (hi : ops[i]? = some oi) (hj : ops[j]? = some oj) (hk : ops[k]? = some ok)
    (h : St P ops (NP Q) oi N E ds w fun E' w' => (B.elem i = false → Below ws.heap.size ws w') ∧ WM P ops Q B ws f (li.set i true) N E' ds w')
    (h' : St P ops (NP Q) oj N E ds w fun E' w' => (B.elem j = false → Below ws.heap.size ws w') ∧ WM P ops Q B ws f (li.set j true) N E' ds w')
    (h2 : St P ops (NP Q) ok N E ds w fun E' w' => (B.elem k = false → Below ws.heap.size ws w') ∧ WM P ops Q B ws f (li.set k true) N E' ds w') : WM P ops Q B ws (f + 1) li N E ds w := by
  refine ⟨fun h0 => ?_, fun q hq => ?_⟩
  · rw [show Region.ready .any ops li.toArray = [i, j, k] from hr] at h0; cases h0
  · rw [show Region.ready .any ops li.toArray = [i, j, k] from hr] at hq
    simp only [List.mem_cons, List.not_mem_nil, or_false] at hq
    rcases hq with rfl | rfl | rfl
    · refine wpOp_st hi ⟨fun K' hK => h.out K' fun E' w' hh => hK E' w' ⟨fun hb _ => hh.1 hb, ?_⟩⟩
      simpa using hh.2.out
    · refine wpOp_st hj ⟨fun K' hK => h'.out K' fun E' w' hh => hK E' w' ⟨fun hb _ => hh.1 hb, ?_⟩⟩
      simpa using hh.2.out
    · refine wpOp_st hk ⟨fun K' hK => h2.out K' fun E' w' hh => hK E' w' ⟨fun hb _ => hh.1 hb, ?_⟩⟩
      simpa using hh.2.out
/-- A cut: behind it no more is known than J tells of the slots ks, and of the world. -/
structure Ct (ks : List Nat) (J : List Value → World → Prop) (N : Nat) (ds : List Deferred) (Q : Exit → Act → World → Prop) (e : Exit) (a : Act) (w : World) : Prop where
  out : match e with
    | .normal => ∃ E', a = fr N E' ds ∧ J (ks.map (get E')) w
    | e => Q e a w
theorem ct_n {ks : List Nat} {J : List Value → World → Prop} (h : J (ks.map (get E)) w) : Ct ks J N ds Q .normal (fr N E ds) w := ⟨⟨E, rfl, h⟩⟩
theorem ct_x {ks : List Nat} {J : List Value → World → Prop} {a : Act} {i : Nat} (h : Q (.exit i) a w) : Ct ks J N ds Q (.exit i) a w := ⟨h⟩
theorem ct_r {ks : List Nat} {J : List Value → World → Prop} {a : Act} (h : Q .ret a w) : Ct ks J N ds Q .ret a w := ⟨h⟩
theorem c_cut {c : Code} (ks : List Nat) (J : List Value → World → Prop) (h1 : WC P c (Ct ks J N ds Q) N E ds w) (h2 : ∀ vs E0 w', J vs w' → Q .normal (fr N (ks.zip vs ++ E0) ds) w') : WC P c Q N E ds w := by
  refine ⟨Code.wp_mono ?_ h1.out⟩
  intro e a w' hq
  have hq := hq.out
  cases e with
  | normal =>
    obtain ⟨E', rfl, hJ⟩ := hq
    rw [fr_dups ks E']
    exact h2 _ E' w' hJ
  | exit _ => exact hq
  | goto _ => exact hq
  | ret => exact hq
  | panic _ => exact hq
  | outgrown => exact hq
end
end Go.Proofs.YtiolpldihoghiaaDoor

namespace Go.Proofs.YtiolpldihoghiaaDoor
open Go.RowKit
set_option linter.unusedVariables false
set_option linter.unusedSimpArgs false
set_option maxHeartbeats 64000000
theorem ca_Cy4 {k : FuncId} {vs : List Value} {w1 : World} {v : Value} (h : Ret Tryd.prog k vs w1 (fun u _ => u = v) := by first | exact anc_any _ _ _ _ _ _ _ _ (H.fact _ mem_auto) (H.fact _ mem_auto) | exact rAnc_any _ _ _ _ _ _ _ _ (H.fact _ mem_auto) (H.fact _ mem_auto)) : Ret Tryd.prog k vs w1 (fun u _ => u = v) := h
section
variable (M : Nat → Prop) (w : World) (hM : ∀ b, M b → b < w.heap.size) (p q : Pt) (A1 A2 A3 B1 B2 B3 Ap : Option Addr) (c1 c2 c3 d1 d2 d3 cp : Nat) (hs : rng .i64 p.site) (hd : p.dirty.length ≤ 1000000) (hi : p.im.length ≤ 1000000) (hs' : rng .i64 q.site) (hd' : q.dirty.length ≤ 1000000) (hi' : q.im.length ≤ 1000000)
  (number time : Int) (pos : List Int) (hpl : pos.length ≤ 1000000)
  (h1 : Stab w M (Row kSpan 3 A1 p.lin)) (h2 : Stab w M (Row kBm 2 A2 p.dirty)) (h3 : Stab w M (Row kVol 1 A3 p.im)) (k1 : Stab w M (Row kSpan 3 B1 q.lin)) (k2 : Stab w M (Row kBm 2 B2 q.dirty)) (k3 : Stab w M (Row kVol 1 B3 q.im)) (hp : Stab w M (Row (kInt .i64) 1 Ap pos))
include hM hs hd hi hs' hd' hi' hpl h1 h2 h3 k1 k2 k3 hp
theorem rCycle_any :
    Ret Tryd.prog 18 [.agg [.int .i64 p.site, .slice A1 p.lin.length c1, .slice A2 p.dirty.length c2, .slice A3 p.im.length c3].toArray, .agg [.int .i64 q.site, .slice B1 q.lin.length d1, .slice B2 q.dirty.length d2, .slice B3 q.im.length d3].toArray, .int .i64 number, .int .i64 time, .slice Ap pos.length cp] w (CycRet M w (cycSp p q number time pos)) := by
  have hprng := rng_row hp
  have hll := k1.now.len
  refine enter (M := M) (F := [Row kSpan 3 A1 p.lin, Row kBm 2 A2 p.dirty, Row kVol 1 A3 p.im, Row kSpan 3 B1 q.lin, Row kBm 2 B2 q.dirty, Row kVol 1 B3 q.im, Row (kInt .i64) 1 Ap pos]) Tryd.func18 rfl rfl rfl (by simpa using ⟨h1, h2, h3, k1, k2, k3, hp⟩) fun H => ?_
  repeat' (first | (apply l_rd; exact rd_go; rfl) | (apply q_rd; exact rd_go; rfl) | refine stp ?_ | refine bk_o rfl ?_ | refine c_true ⟨rfl, rfl⟩ ?_ | refine c_false ⟨rfl, rfl⟩ ?_ | (apply l_rdg; rfl; rfl; rfl; exact rd_go; rfl) | refine l_skip rfl rfl rfl rfl ?_ | (apply q_rdg; rfl; rfl; rfl; exact rd_go; rfl) | refine q_skip rfl rfl rfl rfl ?_ | (refine q_end ?_; clear H; intro _ H) | ((first | refine l_st (z_box H ?_) | refine l_st (s_alloc H rfl ?_)); clear H; intro _ _ _ H) | (refine l_st (t_build0 H rfl ?_); clear H; intro _ _ _ _ H) | (refine l_st (z_sto H ?_); clear H; intro _ H) | ((first | refine c_cond ⟨rfl, rfl⟩ ?_ ?_ | refine c_ncond ⟨rfl, rfl⟩ ?_ ?_ | refine l_split rfl rfl ?_ ?_ | refine q_split rfl rfl ?_ ?_ | refine l_nsplit rfl rfl ?_ ?_ | refine q_nsplit rfl rfl ?_ ?_) <;> intro _ <;> try (exfalso; omega)) | (refine l_st (k_call1 evs_auto H ca_Cy4 rfl ?_); clear H; intro _ _ H) | (refine l_st (k_callg1 evs_auto rfl rfl rfl H ca_Cy4 rfl ?_); clear H; intro _ _ H) | refine kq_call1 evs_auto H (fun _ H => ca_Cy4) rfl ?_ | refine kq_callg1 evs_auto rfl rfl rfl H (fun _ H => ca_Cy4) rfl ?_)
  refine l_st (k_call evs_auto H (rBetween_any _ _ (H.mu_lt hM) p q A1 A2 A3 B1 B2 B3 c1 c2 c3 d1 d2 d3 hs hd hi hs' hd' hi' (H.fact _ mem_auto) (H.fact _ mem_auto) (H.fact _ mem_auto) (H.fact _ mem_auto) (H.fact _ mem_auto) (H.fact _ mem_auto)) rfl ?_)
  rintro _ w1 ⟨v1, rfl, hf⟩ hb1 _
  obtain ⟨A5, c5, hA5, s1, s2, H1⟩ := H.takeRow hb1 hf hM Nat.zero_lt_one (by have := betwSp_len p q hd; omega)
  subst hA5
  clear H hf; have H := H1; clear H1
  have hlast : ∃ n : Int, n = lastTo q.lin ∧ (∀ h0 : q.lin.length = 0, n = 0) ∧ ∀ h0 : 0 < q.lin.length, n = (q.lin[((q.lin.length : Int) - 1).toNat]'(by omega)).to := by
    rcases Nat.eq_zero_or_pos q.lin.length with hz | hz
    · exact ⟨0, (lastTo_nil hz).symm, fun _ => rfl, fun h => by omega⟩
    · exact ⟨_, (lastTo_at (l := q.lin) (i := ((q.lin.length : Int) - 1).toNat) (by omega) (by omega)).symm, fun h => by omega, fun _ => rfl⟩
  repeat' (first | (apply l_rd; exact rd_go; rfl) | (apply q_rd; exact rd_go; rfl) | refine stp ?_ | refine bk_o rfl ?_ | refine c_true ⟨rfl, rfl⟩ ?_ | refine c_false ⟨rfl, rfl⟩ ?_ | (apply l_rdg; rfl; rfl; rfl; exact rd_go; rfl) | refine l_skip rfl rfl rfl rfl ?_ | (apply q_rdg; rfl; rfl; rfl; exact rd_go; rfl) | refine q_skip rfl rfl rfl rfl ?_ | (refine q_end ?_; clear H; intro _ H) | ((first | refine l_st (z_box H ?_) | refine l_st (s_alloc H rfl ?_)); clear H; intro _ _ _ H) | (refine l_st (t_build0 H rfl ?_); clear H; intro _ _ _ _ H) | (refine l_st (z_sto H ?_); clear H; intro _ H) | ((first | refine c_cond ⟨rfl, rfl⟩ ?_ ?_ | refine c_ncond ⟨rfl, rfl⟩ ?_ ?_ | refine l_split rfl rfl ?_ ?_ | refine q_split rfl rfl ?_ ?_ | refine l_nsplit rfl rfl ?_ ?_ | refine q_nsplit rfl rfl ?_ ?_) <;> intro _ <;> try (exfalso; omega)) | (refine l_st (k_call1 evs_auto H ca_Cy4 rfl ?_); clear H; intro _ _ H) | (refine l_st (k_callg1 evs_auto rfl rfl rfl H ca_Cy4 rfl ?_); clear H; intro _ _ H) | refine kq_call1 evs_auto H (fun _ H => ca_Cy4) rfl ?_ | refine kq_callg1 evs_auto rfl rfl rfl H (fun _ H => ca_Cy4) rfl ?_)
  · have hbad : (betwSp p q).2 ≠ 0 := by assumption
    refine retct (i := 0) H rfl rfl rfl rfl rfl rfl rfl (cyc_ret0 H ?_); unfold cycSp; rw [if_pos hbad]
  all_goals obtain ⟨nl, hl1, hl2, hl3⟩ := hlast
  all_goals try (refine retct (i := 0) H rfl rfl rfl rfl rfl rfl rfl (cyc_ret0 H ?_); unfold cycSp; rw [if_neg (by assumption), if_pos (by first | omega | (have := hl2 (by omega); omega) | (have := hl3 (by omega); omega))]; done)
  all_goals
    have hgood : ¬ (betwSp p q).2 ≠ 0 := by assumption
    have hnb : ¬ (number ≤ (anc p.lin q.lin).1 ∨ number < lastTo q.lin) := by
      rw [← hl1]
      first
      | (have h9 := hl3 (by omega); omega)
      | (have h9 := hl2 (by omega); omega)
    have hok := betwOk (p := p) (q := q) (by omega)
    obtain ⟨l1, l2, l3, l4, l5⟩ := hok.len
    have hsp : cycSp p q number time pos = if cycErr ⟨(anc p.lin q.lin).1, number, time, pos, contents q.im (betwSp p q).1⟩ (sizesOf q.im) ≠ 0 then (cyc0, cycErr ⟨(anc p.lin q.lin).1, number, time, pos, contents q.im (betwSp p q).1⟩ (sizesOf q.im)) else (⟨(anc p.lin q.lin).1, number, time, pos, contents q.im (betwSp p q).1⟩, 0) := by
      unfold cycSp; rw [if_neg hgood, if_neg hnb]
    have hLl : (betwSp p q).1.length = q.im.length := by rw [hok.eq]; exact l2
    have hLat' : ∀ i (h : i < q.im.length) (hb : i < (betwSp p q).1.length), q.im[i].length ≤ 4096 ∧ ((betwSp p q).1[i]).length ≤ 4096 ∧ ∀ e ∈ (betwSp p q).1[i], 0 ≤ e.start ∧ 0 ≤ e.count ∧ e.start + e.count ≤ (q.im[i].length : Int) := by
      rw [hok.eq]; exact fun i h hb => hok.at_ h hb
    clear hgood l2
    rw [hsp]
    clear hsp
    generalize (betwSp p q).1 = lst at *
    have hmn : ∀ x ∈ lst, x.length ≤ 4096 := fun x hx => by
      obtain ⟨j, hj, rfl⟩ := List.mem_iff_getElem.1 hx
      exact (hLat' j (by omega) hj).2.1
    have hcl := contUpto_len q.im lst hmn lst.length
    have hcl2 : (contents q.im lst).length ≤ 4096 * 8 := by unfold contents; omega
    refine c_cut [18, 6, 10] (fun vs w' => ∃ (b18 b6 b10 b5 : Nat) (A21 : Option Addr) (c21 : Nat) (A22 : Option Addr) (c22 : Nat) (cs22 : List Value), vs = [lp b18 0, lp b6 0, lp b10 0] ∧
      Hp w M w' [⟨b18, [.int .i64 (anc p.lin q.lin).1, .int .i64 number, .int .i64 time, .slice A21 pos.length c21, .slice A22 (contents q.im lst).length c22], 45⟩, ⟨b10, [.int .i64 0, .int .i64 0, .int .i64 0, .slice none 0 0, .slice none 0 0], 45⟩, ⟨b6, [.int .i64 q.site, .slice B1 q.lin.length d1, .slice B2 q.dirty.length d2, .slice B3 q.im.length d3], 27⟩, ⟨b5, [.int .i64 p.site, .slice A1 p.lin.length c1, .slice A2 p.dirty.length c2, .slice A3 p.im.length c3], 27⟩]
        [⟨.slice A22 (contents q.im lst).length c22, 100, 3, (contents q.im lst).length, cs22⟩, ⟨.slice A21 pos.length c21, 3, 1, pos.length, pos.map (Value.int .i64)⟩] [Chunks kWr 3 (contents q.im lst) cs22, Row kVol 1 B3 q.im]) ?_ ?_
    · refine c_mix H [12] ?_
      clear H; intro w5 H
      have hbw : Below w5.heap.size w5 w5 := Below.refl _ _
      (apply m_rd2 (i := 0) rfl (by decide +kernel) (by first | exact Below.refl _ _ | assumption); exact rd_go; rfl); (apply m_rd2 (i := 1) rfl (by decide +kernel) (by first | exact Below.refl _ _ | assumption); exact rd_go; rfl); (apply m_rd2 (i := 2) rfl (by decide +kernel) (by first | exact Below.refl _ _ | assumption); exact rd_go; rfl); (apply m_rd2 (i := 4) rfl (by decide +kernel) (by first | exact Below.refl _ _ | assumption); exact rd_go; rfl); (apply m_rd2 (i := 6) rfl (by decide +kernel) (by first | exact Below.refl _ _ | assumption); exact rd_go; rfl); (apply m_rd2 (i := 7) rfl (by decide +kernel) (by first | exact Below.refl _ _ | assumption); exact rd_go; rfl); (apply m_rd2 (i := 8) rfl (by decide +kernel) (by first | exact Below.refl _ _ | assumption); exact rd_go; rfl)
      refine m_two (i := 3) (j := 11) (by kernel_rfl) rfl rfl ?_ ?_
      · refine t_build0m H rfl ?_
        intro A20 c20 w20 hb20 hg20 H20
        have hge : ∀ b, (Value.slice A20 0 c20).ownBlock = some b → w5.heap.size ≤ b := fun b hb => Nat.le_trans hbw.size (hg20 b hb)
        have hbw2 := hbw.trans (hb20.mono hbw.size)
        refine ⟨fun _ => hbw2, ?_⟩
        clear H hbw; have H := H20; have hbw := hbw2; clear H20 hbw2
        refine m_two (i := 5) (j := 11) (by kernel_rfl) rfl rfl ?_ ?_
        · first | refine t_append_row (j := 0) (dd := kInt .i64) (xs := pos) H rfl ⟨rfl, rfl⟩ ⟨rfl, rfl⟩ mem_auto (by omega) rfl ?_ | refine t_append_row (j := 1) (dd := kInt .i64) (xs := pos) H rfl ⟨rfl, rfl⟩ ⟨rfl, rfl⟩ mem_auto (by omega) rfl ?_
          intro A21 c21 w21 news hG hn H21
          have hbw2 := hG.below _ _ hbw.size hbw hge
          refine ⟨fun _ => hbw2, ?_⟩
          obtain rfl := chunks_int hn
          simp only [Nat.zero_add, List.nil_append, List.set_cons_zero, List.set_cons_succ] at H21 ⊢
          clear H hbw hge hG hn; have H := H21; have hbw := hbw2; clear H21 hbw2
          refine m_two (i := 9) (j := 11) (by kernel_rfl) rfl rfl ?_ ?_
          · refine k_call evs_auto H (rContents_any _ _ (H.mu_lt hM) q.im lst B3 A5 d3 c5 (by omega) hLl hLat' (H.fact _ mem_auto) (H.fact _ mem_auto)) rfl ?_
            intro v22 w22 hf22 hb22 _
            obtain ⟨A22, c22, cs22, hv22, _, _, H22⟩ := H.take' hb22 hf22
            subst hv22
            have hbw2 := hbw.trans (hb22.mono hbw.size)
            refine ⟨fun _ => hbw2, ?_⟩
            clear H hbw hf22; have H := H22; have hbw := hbw2; clear H22 hbw2
            (apply m_pure (i := 10) rfl (by decide +kernel); intro _; exact rd_go; rfl)
            refine m_one (i := 11) (by kernel_rfl) rfl ?_
            · refine s_alloc H rfl ?_
              intro w23 b23 hb23 H23
              have hbw2 := hbw.trans (hb23.mono hbw.size)
              refine ⟨fun _ => hbw2, ?_⟩
              clear H hbw; have H := H23; have hbw := hbw2; clear H23 hbw2
              refine m_one (i := 12) (by kernel_rfl) rfl (s_storea (i := 0) H ⟨rfl, rfl⟩ rfl ⟨rfl, rfl⟩ rfl rfl rfl ?_)
              intro w24 H24
              exact ⟨fun h => (by cases h), m_end (by kernel_rfl) (ct_n ⟨_, _, _, _, A21, c21, A22, c22, cs22, rfl, (by first | exact H24.weak (List.Sublist.refl _) (List.Sublist.refl _) (by simp) | exact (H24.perm (List.Perm.swap _ _ _)).weak (List.Sublist.refl _) (List.Sublist.refl _) (by simp))⟩)⟩
          · refine s_alloc H rfl ?_
            intro w23 b23 hb23 H23
            have hbw2 := hbw.trans (hb23.mono hbw.size)
            refine ⟨fun _ => hbw2, ?_⟩
            clear H hbw; have H := H23; have hbw := hbw2; clear H23 hbw2
            refine m_one (i := 9) (by kernel_rfl) rfl ?_
            · refine k_call evs_auto H (rContents_any _ _ (H.mu_lt hM) q.im lst B3 A5 d3 c5 (by omega) hLl hLat' (H.fact _ mem_auto) (H.fact _ mem_auto)) rfl ?_
              intro v22 w22 hf22 hb22 _
              obtain ⟨A22, c22, cs22, hv22, _, _, H22⟩ := H.take' hb22 hf22
              subst hv22
              have hbw2 := hbw.trans (hb22.mono hbw.size)
              refine ⟨fun _ => hbw2, ?_⟩
              clear H hbw hf22; have H := H22; have hbw := hbw2; clear H22 hbw2
              (apply m_pure (i := 10) rfl (by decide +kernel); intro _; exact rd_go; rfl)
              refine m_one (i := 12) (by kernel_rfl) rfl (s_storea (i := 0) H ⟨rfl, rfl⟩ rfl ⟨rfl, rfl⟩ rfl rfl rfl ?_)
              intro w24 H24
              exact ⟨fun h => (by cases h), m_end (by kernel_rfl) (ct_n ⟨_, _, _, _, A21, c21, A22, c22, cs22, rfl, (by first | exact H24.weak (List.Sublist.refl _) (List.Sublist.refl _) (by simp) | exact (H24.perm (List.Perm.swap _ _ _)).weak (List.Sublist.refl _) (List.Sublist.refl _) (by simp))⟩)⟩
        · refine s_alloc H rfl ?_
          intro w23 b23 hb23 H23
          have hbw2 := hbw.trans (hb23.mono hbw.size)
          refine ⟨fun _ => hbw2, ?_⟩
          clear H hbw; have H := H23; have hbw := hbw2; clear H23 hbw2
          refine m_one (i := 5) (by kernel_rfl) rfl ?_
          · first | refine t_append_row (j := 0) (dd := kInt .i64) (xs := pos) H rfl ⟨rfl, rfl⟩ ⟨rfl, rfl⟩ mem_auto (by omega) rfl ?_ | refine t_append_row (j := 1) (dd := kInt .i64) (xs := pos) H rfl ⟨rfl, rfl⟩ ⟨rfl, rfl⟩ mem_auto (by omega) rfl ?_
            intro A21 c21 w21 news hG hn H21
            have hbw2 := hG.below _ _ hbw.size hbw hge
            refine ⟨fun _ => hbw2, ?_⟩
            obtain rfl := chunks_int hn
            simp only [Nat.zero_add, List.nil_append, List.set_cons_zero, List.set_cons_succ] at H21 ⊢
            clear H hbw hge hG hn; have H := H21; have hbw := hbw2; clear H21 hbw2
            refine m_one (i := 9) (by kernel_rfl) rfl ?_
            · refine k_call evs_auto H (rContents_any _ _ (H.mu_lt hM) q.im lst B3 A5 d3 c5 (by omega) hLl hLat' (H.fact _ mem_auto) (H.fact _ mem_auto)) rfl ?_
              intro v22 w22 hf22 hb22 _
              obtain ⟨A22, c22, cs22, hv22, _, _, H22⟩ := H.take' hb22 hf22
              subst hv22
              have hbw2 := hbw.trans (hb22.mono hbw.size)
              refine ⟨fun _ => hbw2, ?_⟩
              clear H hbw hf22; have H := H22; have hbw := hbw2; clear H22 hbw2
              (apply m_pure (i := 10) rfl (by decide +kernel); intro _; exact rd_go; rfl)
              refine m_one (i := 12) (by kernel_rfl) rfl (s_storea (i := 0) H ⟨rfl, rfl⟩ rfl ⟨rfl, rfl⟩ rfl rfl rfl ?_)
              intro w24 H24
              exact ⟨fun h => (by cases h), m_end (by kernel_rfl) (ct_n ⟨_, _, _, _, A21, c21, A22, c22, cs22, rfl, (by first | exact H24.weak (List.Sublist.refl _) (List.Sublist.refl _) (by simp) | exact (H24.perm (List.Perm.swap _ _ _)).weak (List.Sublist.refl _) (List.Sublist.refl _) (by simp))⟩)⟩
      · refine s_alloc H rfl ?_
        intro w23 b23 hb23 H23
        have hbw2 := hbw.trans (hb23.mono hbw.size)
        refine ⟨fun _ => hbw2, ?_⟩
        clear H hbw; have H := H23; have hbw := hbw2; clear H23 hbw2
        refine m_one (i := 3) (by kernel_rfl) rfl ?_
        · refine t_build0m H rfl ?_
          intro A20 c20 w20 hb20 hg20 H20
          have hge : ∀ b, (Value.slice A20 0 c20).ownBlock = some b → w5.heap.size ≤ b := fun b hb => Nat.le_trans hbw.size (hg20 b hb)
          have hbw2 := hbw.trans (hb20.mono hbw.size)
          refine ⟨fun _ => hbw2, ?_⟩
          clear H hbw; have H := H20; have hbw := hbw2; clear H20 hbw2
          refine m_one (i := 5) (by kernel_rfl) rfl ?_
          · first | refine t_append_row (j := 0) (dd := kInt .i64) (xs := pos) H rfl ⟨rfl, rfl⟩ ⟨rfl, rfl⟩ mem_auto (by omega) rfl ?_ | refine t_append_row (j := 1) (dd := kInt .i64) (xs := pos) H rfl ⟨rfl, rfl⟩ ⟨rfl, rfl⟩ mem_auto (by omega) rfl ?_
            intro A21 c21 w21 news hG hn H21
            have hbw2 := hG.below _ _ hbw.size hbw hge
            refine ⟨fun _ => hbw2, ?_⟩
            obtain rfl := chunks_int hn
            simp only [Nat.zero_add, List.nil_append, List.set_cons_zero, List.set_cons_succ] at H21 ⊢
            clear H hbw hge hG hn; have H := H21; have hbw := hbw2; clear H21 hbw2
            refine m_one (i := 9) (by kernel_rfl) rfl ?_
            · refine k_call evs_auto H (rContents_any _ _ (H.mu_lt hM) q.im lst B3 A5 d3 c5 (by omega) hLl hLat' (H.fact _ mem_auto) (H.fact _ mem_auto)) rfl ?_
              intro v22 w22 hf22 hb22 _
              obtain ⟨A22, c22, cs22, hv22, _, _, H22⟩ := H.take' hb22 hf22
              subst hv22
              have hbw2 := hbw.trans (hb22.mono hbw.size)
              refine ⟨fun _ => hbw2, ?_⟩
              clear H hbw hf22; have H := H22; have hbw := hbw2; clear H22 hbw2
              (apply m_pure (i := 10) rfl (by decide +kernel); intro _; exact rd_go; rfl)
              refine m_one (i := 12) (by kernel_rfl) rfl (s_storea (i := 0) H ⟨rfl, rfl⟩ rfl ⟨rfl, rfl⟩ rfl rfl rfl ?_)
              intro w24 H24
              exact ⟨fun h => (by cases h), m_end (by kernel_rfl) (ct_n ⟨_, _, _, _, A21, c21, A22, c22, cs22, rfl, (by first | exact H24.weak (List.Sublist.refl _) (List.Sublist.refl _) (by simp) | exact (H24.perm (List.Perm.swap _ _ _)).weak (List.Sublist.refl _) (List.Sublist.refl _) (by simp))⟩)⟩
    · rintro vs E0 w30 ⟨b18, b6, b10, b5, A21, c21, A22, c22, cs22, rfl, H⟩
      repeat' (first | (apply l_rd; exact rd_go; rfl) | (apply q_rd; exact rd_go; rfl) | refine stp ?_ | refine bk_o rfl ?_ | refine c_true ⟨rfl, rfl⟩ ?_ | refine c_false ⟨rfl, rfl⟩ ?_ | (apply l_rdg; rfl; rfl; rfl; exact rd_go; rfl) | refine l_skip rfl rfl rfl rfl ?_ | (apply q_rdg; rfl; rfl; rfl; exact rd_go; rfl) | refine q_skip rfl rfl rfl rfl ?_ | (refine q_end ?_; clear H; intro _ H) | ((first | refine l_st (z_box H ?_) | refine l_st (s_alloc H rfl ?_)); clear H; intro _ _ _ H) | (refine l_st (t_build0 H rfl ?_); clear H; intro _ _ _ _ H) | (refine l_st (z_sto H ?_); clear H; intro _ H) | ((first | refine c_cond ⟨rfl, rfl⟩ ?_ ?_ | refine c_ncond ⟨rfl, rfl⟩ ?_ ?_ | refine l_split rfl rfl ?_ ?_ | refine q_split rfl rfl ?_ ?_ | refine l_nsplit rfl rfl ?_ ?_ | refine q_nsplit rfl rfl ?_ ?_) <;> intro _ <;> try (exfalso; omega)) | (refine l_st (k_call1 evs_auto H ca_Cy4 rfl ?_); clear H; intro _ _ H) | (refine l_st (k_callg1 evs_auto rfl rfl rfl H ca_Cy4 rfl ?_); clear H; intro _ _ H) | refine kq_call1 evs_auto H (fun _ H => ca_Cy4) rfl ?_ | refine kq_callg1 evs_auto rfl rfl rfl H (fun _ H => ca_Cy4) rfl ?_)
      refine c_mix H [] ?_
      clear H; intro w31 H
      (apply m_rd2 (i := 0) rfl (by decide +kernel) (by first | exact Below.refl _ _ | assumption); exact rd_go; rfl); (apply m_rd2 (i := 1) rfl (by decide +kernel) (by first | exact Below.refl _ _ | assumption); exact rd_go; rfl); (apply m_rd2 (i := 2) rfl (by decide +kernel) (by first | exact Below.refl _ _ | assumption); exact rd_go; rfl)
      refine m_one (i := 3) (by kernel_rfl) rfl (k_call evs_auto H (rSizesOf_any _ q.im B3 d3 _ hi' (H.fact _ mem_auto)) rfl ?_)
      intro v7 w7 hf7 hb7 _
      obtain ⟨A7, c7, hv7, _, _, H7⟩ := H.takeRow hb7 hf7 hM Nat.zero_lt_one (by rw [sizesOf_len]; omega)
      subst hv7
      clear H hf7; have H := H7; clear H7
      refine ⟨fun _ => hb7, ?_⟩
      have g1 := H.own_row0 (j := 1) rfl hprng rfl (by omega)
      have g2 := H.own_rowF (dd := kWr) (xs := contents q.im lst) (j := 0) rfl mem_auto (by decide) rfl (by omega)
      have g3 := (H.fact (Row (kInt .i64) 1 A7 (sizesOf q.im)) mem_auto).none
      have hcy := rCyc_any (fun _ => False) ⟨(anc p.lin q.lin).1, number, time, pos, contents q.im lst⟩ (sizesOf q.im) A21 A22 A7 c21 c22 c7 _ g1 g2 g3
      refine m_one (i := 4) (by kernel_rfl) rfl (k_call1 evs_auto H hcy rfl ?_)
      clear g1 g2 g3 hcy; intro w8 hb8 H8
      refine ⟨fun _ => hb7.trans (hb8.mono hb7.size), ?_⟩
      clear H; have H := H8; clear H8
      (apply m_pure (i := 5) rfl (by decide +kernel); intro _; exact rd_go; rfl)
      refine m_end (by kernel_rfl) ?_
      repeat' (first | (apply l_rd; exact rd_go; rfl) | (apply q_rd; exact rd_go; rfl) | refine stp ?_ | refine bk_o rfl ?_ | refine c_true ⟨rfl, rfl⟩ ?_ | refine c_false ⟨rfl, rfl⟩ ?_ | (apply l_rdg; rfl; rfl; rfl; exact rd_go; rfl) | refine l_skip rfl rfl rfl rfl ?_ | (apply q_rdg; rfl; rfl; rfl; exact rd_go; rfl) | refine q_skip rfl rfl rfl rfl ?_ | (refine q_end ?_; clear H; intro _ H) | ((first | refine l_st (z_box H ?_) | refine l_st (s_alloc H rfl ?_)); clear H; intro _ _ _ H) | (refine l_st (t_build0 H rfl ?_); clear H; intro _ _ _ _ H) | (refine l_st (z_sto H ?_); clear H; intro _ H) | ((first | refine c_cond ⟨rfl, rfl⟩ ?_ ?_ | refine c_ncond ⟨rfl, rfl⟩ ?_ ?_ | refine l_split rfl rfl ?_ ?_ | refine q_split rfl rfl ?_ ?_ | refine l_nsplit rfl rfl ?_ ?_ | refine q_nsplit rfl rfl ?_ ?_) <;> intro _ <;> try (exfalso; omega)) | (refine l_st (k_call1 evs_auto H ca_Cy4 rfl ?_); clear H; intro _ _ H) | (refine l_st (k_callg1 evs_auto rfl rfl rfl H ca_Cy4 rfl ?_); clear H; intro _ _ H) | refine kq_call1 evs_auto H (fun _ H => ca_Cy4) rfl ?_ | refine kq_callg1 evs_auto rfl rfl rfl H (fun _ H => ca_Cy4) rfl ?_)
      · have hne : cycErr ⟨(anc p.lin q.lin).1, number, time, pos, contents q.im lst⟩ (sizesOf q.im) ≠ 0 := by assumption
        refine retct (i := 1) H rfl rfl rfl rfl rfl rfl rfl (cyc_ret0 H ?_); rw [if_pos hne]
      · have hne : ¬ cycErr ⟨(anc p.lin q.lin).1, number, time, pos, contents q.im lst⟩ (sizesOf q.im) ≠ 0 := by assumption
        refine retct (i := 1) H rfl rfl rfl rfl rfl rfl rfl ?_
        rw [if_neg hne]
        exact ⟨_, _, rfl, ints_ret (j := 1) H rfl hprng rfl, H.fresh (j := 0) rfl mem_auto rfl⟩
end
end Go.Proofs.YtiolpldihoghiaaDoor

namespace Go.Proofs.YtiolpldihoghiaaDoor
open Go.RowKit
set_option linter.unusedVariables false
set_option linter.unusedSimpArgs false
set_option maxHeartbeats 8000000
theorem ca_Lu1 {k : FuncId} {vs : List Value} {w1 : World} {v : Value} (h : Ret Tryd.prog k vs w1 (fun u _ => u = v) := by first | exact rFewPt_any _ _ _ _ _ _ _ _ _ (by assumption) (H.fact _ mem_auto) (H.fact _ mem_auto) (H.fact _ mem_auto) | exact awake_any _ _ (H.mu_lt hM) (H.fact _ mem_auto)) : Ret Tryd.prog k vs w1 (fun u _ => u = v) := h
theorem undoSp_len (p : Pt) (n : Int) (h : p.dirty.length ≤ 1000000) : (undoSp p n).1.length ≤ 1000000 := by
  unfold undoSp; repeat' split
  · simp
  · simp
  · simpa using h
theorem fewPt_len {p : Pt} (h : fewPt p) : p.dirty.length ≤ 1000000 ∧ p.im.length ≤ 1000000 := by
  obtain ⟨_, _, h1, h2⟩ := h
  unfold fewIm at h2
  omega
section
variable (M : Nat → Prop) (w : World) (hM : ∀ b, M b → b < w.heap.size) (p q : Pt) (A1 A2 A3 B1 B2 B3 : Option Addr) (c1 c2 c3 d1 d2 d3 : Nat) (number : Int) (hs : rng .i64 p.site) (hs' : rng .i64 q.site)
  (h1 : Stab w M (Row kSpan 3 A1 p.lin)) (h2 : Stab w M (Row kBm 2 A2 p.dirty)) (h3 : Stab w M (Row kVol 1 A3 p.im)) (k1 : Stab w M (Row kSpan 3 B1 q.lin)) (k2 : Stab w M (Row kBm 2 B2 q.dirty)) (k3 : Stab w M (Row kVol 1 B3 q.im)) (hT : Stab w M TabF)
include hM hs hs' h1 h2 h3 k1 k2 k3 hT
theorem undoes_any :
    Ret Tryd.prog 3 [.agg [.int .i64 p.site, .slice A1 p.lin.length c1, .slice A2 p.dirty.length c2, .slice A3 p.im.length c3].toArray, .agg [.int .i64 q.site, .slice B1 q.lin.length d1, .slice B2 q.dirty.length d2, .slice B3 q.im.length d3].toArray, .int .i64 number] w fun v _ => v = .bool true := by
  refine enter (M := M) (F := [Row kSpan 3 A1 p.lin, Row kBm 2 A2 p.dirty, Row kVol 1 A3 p.im, Row kSpan 3 B1 q.lin, Row kBm 2 B2 q.dirty, Row kVol 1 B3 q.im, TabF]) Tryd.func3 rfl rfl rfl (by simpa using ⟨h1, h2, h3, k1, k2, k3, hT⟩) fun H => ?_
  repeat' (first | (apply l_rd; exact rd_go; rfl) | (apply q_rd; exact rd_go; rfl) | refine stp ?_ | refine bk_o rfl ?_ | refine c_true ⟨rfl, rfl⟩ ?_ | refine c_false ⟨rfl, rfl⟩ ?_ | (apply l_rdg; rfl; rfl; rfl; exact rd_go; rfl) | refine l_skip rfl rfl rfl rfl ?_ | (apply q_rdg; rfl; rfl; rfl; exact rd_go; rfl) | refine q_skip rfl rfl rfl rfl ?_ | refine c_draw H (by kernel_rfl) ?_ | (refine q_end ?_; clear H; intro _ H) | ((first | refine l_st (z_box H ?_) | refine l_st (s_alloc H rfl ?_)); clear H; intro _ _ _ H) | (refine l_st (t_build0 H rfl ?_); clear H; intro _ _ _ _ H) | (refine l_st (z_sto H ?_); clear H; intro _ H) | ((first | refine c_cond ⟨rfl, rfl⟩ ?_ ?_ | refine c_ncond ⟨rfl, rfl⟩ ?_ ?_ | refine l_split rfl rfl ?_ ?_ | refine q_split rfl rfl ?_ ?_ | refine l_nsplit rfl rfl ?_ ?_ | refine q_nsplit rfl rfl ?_ ?_) <;> intro _ <;> try (exfalso; omega)) | (refine l_st (k_call1 evs_auto H ca_Lu1 rfl ?_); clear H; intro _ _ H) | (refine l_st (k_callg1 evs_auto rfl rfl rfl H ca_Lu1 rfl ?_); clear H; intro _ _ H) | refine kq_call1 evs_auto H (fun _ H => ca_Lu1) rfl ?_ | refine kq_callg1 evs_auto rfl rfl rfl H (fun _ H => ca_Lu1) rfl ?_)
  · exact ret1 H rfl rfl rfl rfl
  · exact ret1 H rfl rfl rfl rfl
  have hp : fewPt p := by assumption
  have hq : fewPt q := by assumption
  obtain ⟨p1, p2⟩ := fewPt_len hp
  obtain ⟨q1, q2⟩ := fewPt_len hq
  refine l_st (k_call evs_auto H (undo_any H.mu _ (H.mu_lt hM) p number A1 A2 A3 c1 c2 c3 hs p1 p2 (H.fact _ mem_auto) (H.fact _ mem_auto) (H.fact _ mem_auto) (H.fact _ mem_auto)) rfl ?_)
  rintro _ w1 ⟨v1, rfl, hf⟩ hb H1
  obtain ⟨A10, c10, hv, _, _, hr⟩ := hf.row (H.mu_lt hM) Nat.zero_lt_one (by have := undoSp_len p number p1; omega)
  subst hv
  have H2 := H1.add hr; clear hf hr H H1; have H := H2; clear H2
  repeat' (first | (apply l_rd; exact rd_go; rfl) | (apply q_rd; exact rd_go; rfl) | refine stp ?_ | refine bk_o rfl ?_ | refine c_true ⟨rfl, rfl⟩ ?_ | refine c_false ⟨rfl, rfl⟩ ?_ | (apply l_rdg; rfl; rfl; rfl; exact rd_go; rfl) | refine l_skip rfl rfl rfl rfl ?_ | (apply q_rdg; rfl; rfl; rfl; exact rd_go; rfl) | refine q_skip rfl rfl rfl rfl ?_ | refine c_draw H (by kernel_rfl) ?_ | (refine q_end ?_; clear H; intro _ H) | ((first | refine l_st (z_box H ?_) | refine l_st (s_alloc H rfl ?_)); clear H; intro _ _ _ H) | (refine l_st (t_build0 H rfl ?_); clear H; intro _ _ _ _ H) | (refine l_st (z_sto H ?_); clear H; intro _ H) | ((first | refine c_cond ⟨rfl, rfl⟩ ?_ ?_ | refine c_ncond ⟨rfl, rfl⟩ ?_ ?_ | refine l_split rfl rfl ?_ ?_ | refine q_split rfl rfl ?_ ?_ | refine l_nsplit rfl rfl ?_ ?_ | refine q_nsplit rfl rfl ?_ ?_) <;> intro _ <;> try (exfalso; omega)) | (refine l_st (k_call1 evs_auto H ca_Lu1 rfl ?_); clear H; intro _ _ H) | (refine l_st (k_callg1 evs_auto rfl rfl rfl H ca_Lu1 rfl ?_); clear H; intro _ _ H) | refine kq_call1 evs_auto H (fun _ H => ca_Lu1) rfl ?_ | refine kq_callg1 evs_auto rfl rfl rfl H (fun _ H => ca_Lu1) rfl ?_)
  refine l_st (k_call evs_auto H (rUndo_any H.mu _ (H.mu_lt hM) p number A1 A2 A3 c1 c2 c3 hs p1 p2 (H.fact _ mem_auto) (H.fact _ mem_auto) (H.fact _ mem_auto)) rfl ?_)
  rintro _ w2 ⟨v1, rfl, hf⟩ hb H1
  obtain ⟨A11, c11, hv, _, _, hr⟩ := hf.row (H.mu_lt hM) Nat.zero_lt_one (by have := undoSp_len p number p1; omega)
  subst hv
  have H2 := H1.add hr; clear hf hr H H1; have H := H2; clear H2
  repeat' (first | (apply l_rd; exact rd_go; rfl) | (apply q_rd; exact rd_go; rfl) | refine stp ?_ | refine bk_o rfl ?_ | refine c_true ⟨rfl, rfl⟩ ?_ | refine c_false ⟨rfl, rfl⟩ ?_ | (apply l_rdg; rfl; rfl; rfl; exact rd_go; rfl) | refine l_skip rfl rfl rfl rfl ?_ | (apply q_rdg; rfl; rfl; rfl; exact rd_go; rfl) | refine q_skip rfl rfl rfl rfl ?_ | refine c_draw H (by kernel_rfl) ?_ | (refine q_end ?_; clear H; intro _ H) | ((first | refine l_st (z_box H ?_) | refine l_st (s_alloc H rfl ?_)); clear H; intro _ _ _ H) | (refine l_st (t_build0 H rfl ?_); clear H; intro _ _ _ _ H) | (refine l_st (z_sto H ?_); clear H; intro _ H) | ((first | refine c_cond ⟨rfl, rfl⟩ ?_ ?_ | refine c_ncond ⟨rfl, rfl⟩ ?_ ?_ | refine l_split rfl rfl ?_ ?_ | refine q_split rfl rfl ?_ ?_ | refine l_nsplit rfl rfl ?_ ?_ | refine q_nsplit rfl rfl ?_ ?_) <;> intro _ <;> try (exfalso; omega)) | (refine l_st (k_call1 evs_auto H ca_Lu1 rfl ?_); clear H; intro _ _ H) | (refine l_st (k_callg1 evs_auto rfl rfl rfl H ca_Lu1 rfl ?_); clear H; intro _ _ H) | refine kq_call1 evs_auto H (fun _ H => ca_Lu1) rfl ?_ | refine kq_callg1 evs_auto rfl rfl rfl H (fun _ H => ca_Lu1) rfl ?_)
  refine l_st (k_call evs_auto H (xtents_any H.mu _ (H.mu_lt hM) p q A1 A2 A3 B1 B2 B3 c1 c2 c3 d1 d2 d3 hs p1 p2 hs' q1 q2 (H.fact _ mem_auto) (H.fact _ mem_auto) (H.fact _ mem_auto) (H.fact _ mem_auto) (H.fact _ mem_auto) (H.fact _ mem_auto) (H.fact _ mem_auto)) rfl ?_)
  rintro _ w3 ⟨v1, rfl, hf⟩ hb H1
  obtain ⟨A12, c12, hv, _, _, hr⟩ := hf.row (H.mu_lt hM) Nat.zero_lt_one (by have := betwSp_len p q p1; omega)
  subst hv
  have H2 := H1.add hr; clear hf hr H H1; have H := H2; clear H2
  repeat' (first | (apply l_rd; exact rd_go; rfl) | (apply q_rd; exact rd_go; rfl) | refine stp ?_ | refine bk_o rfl ?_ | refine c_true ⟨rfl, rfl⟩ ?_ | refine c_false ⟨rfl, rfl⟩ ?_ | (apply l_rdg; rfl; rfl; rfl; exact rd_go; rfl) | refine l_skip rfl rfl rfl rfl ?_ | (apply q_rdg; rfl; rfl; rfl; exact rd_go; rfl) | refine q_skip rfl rfl rfl rfl ?_ | refine c_draw H (by kernel_rfl) ?_ | (refine q_end ?_; clear H; intro _ H) | ((first | refine l_st (z_box H ?_) | refine l_st (s_alloc H rfl ?_)); clear H; intro _ _ _ H) | (refine l_st (t_build0 H rfl ?_); clear H; intro _ _ _ _ H) | (refine l_st (z_sto H ?_); clear H; intro _ H) | ((first | refine c_cond ⟨rfl, rfl⟩ ?_ ?_ | refine c_ncond ⟨rfl, rfl⟩ ?_ ?_ | refine l_split rfl rfl ?_ ?_ | refine q_split rfl rfl ?_ ?_ | refine l_nsplit rfl rfl ?_ ?_ | refine q_nsplit rfl rfl ?_ ?_) <;> intro _ <;> try (exfalso; omega)) | (refine l_st (k_call1 evs_auto H ca_Lu1 rfl ?_); clear H; intro _ _ H) | (refine l_st (k_callg1 evs_auto rfl rfl rfl H ca_Lu1 rfl ?_); clear H; intro _ _ H) | refine kq_call1 evs_auto H (fun _ H => ca_Lu1) rfl ?_ | refine kq_callg1 evs_auto rfl rfl rfl H (fun _ H => ca_Lu1) rfl ?_)
  refine l_st (k_call evs_auto H (rXtents_any H.mu _ (H.mu_lt hM) p q A1 A2 A3 B1 B2 B3 c1 c2 c3 d1 d2 d3 hs p1 p2 hs' q1 q2 (H.fact _ mem_auto) (H.fact _ mem_auto) (H.fact _ mem_auto) (H.fact _ mem_auto) (H.fact _ mem_auto) (H.fact _ mem_auto) (H.fact _ mem_auto)) rfl ?_)
  rintro _ w4 ⟨v1, rfl, hf⟩ hb H1
  obtain ⟨A13, c13, hv, _, _, hr⟩ := hf.row (H.mu_lt hM) Nat.zero_lt_one (by have := betwSp_len p q p1; omega)
  subst hv
  have H2 := H1.add hr; clear hf hr H H1; have H := H2; clear H2
  repeat' (first | (apply l_rd; exact rd_go; rfl) | (apply q_rd; exact rd_go; rfl) | refine stp ?_ | refine bk_o rfl ?_ | refine c_true ⟨rfl, rfl⟩ ?_ | refine c_false ⟨rfl, rfl⟩ ?_ | (apply l_rdg; rfl; rfl; rfl; exact rd_go; rfl) | refine l_skip rfl rfl rfl rfl ?_ | (apply q_rdg; rfl; rfl; rfl; exact rd_go; rfl) | refine q_skip rfl rfl rfl rfl ?_ | refine c_draw H (by kernel_rfl) ?_ | (refine q_end ?_; clear H; intro _ H) | ((first | refine l_st (z_box H ?_) | refine l_st (s_alloc H rfl ?_)); clear H; intro _ _ _ H) | (refine l_st (t_build0 H rfl ?_); clear H; intro _ _ _ _ H) | (refine l_st (z_sto H ?_); clear H; intro _ H) | ((first | refine c_cond ⟨rfl, rfl⟩ ?_ ?_ | refine c_ncond ⟨rfl, rfl⟩ ?_ ?_ | refine l_split rfl rfl ?_ ?_ | refine q_split rfl rfl ?_ ?_ | refine l_nsplit rfl rfl ?_ ?_ | refine q_nsplit rfl rfl ?_ ?_) <;> intro _ <;> try (exfalso; omega)) | (refine l_st (k_call1 evs_auto H ca_Lu1 rfl ?_); clear H; intro _ _ H) | (refine l_st (k_callg1 evs_auto rfl rfl rfl H ca_Lu1 rfl ?_); clear H; intro _ _ H) | refine kq_call1 evs_auto H (fun _ H => ca_Lu1) rfl ?_ | refine kq_callg1 evs_auto rfl rfl rfl H (fun _ H => ca_Lu1) rfl ?_)
  have hsx := sameExtss_any _ (undoSp p number).1 (undoSp p number).1 A10 A11 c10 c11 _ (H.fact _ mem_auto) (H.fact _ mem_auto)
  rw [decide_eq_true rfl] at hsx
  refine l_st (k_callg1 evs_auto rfl rfl rfl H hsx rfl ?_)
  clear H hsx; intro _ _ H
  repeat' (first | (apply l_rd; exact rd_go; rfl) | (apply q_rd; exact rd_go; rfl) | refine stp ?_ | refine bk_o rfl ?_ | refine c_true ⟨rfl, rfl⟩ ?_ | refine c_false ⟨rfl, rfl⟩ ?_ | (apply l_rdg; rfl; rfl; rfl; exact rd_go; rfl) | refine l_skip rfl rfl rfl rfl ?_ | (apply q_rdg; rfl; rfl; rfl; exact rd_go; rfl) | refine q_skip rfl rfl rfl rfl ?_ | refine c_draw H (by kernel_rfl) ?_ | (refine q_end ?_; clear H; intro _ H) | ((first | refine l_st (z_box H ?_) | refine l_st (s_alloc H rfl ?_)); clear H; intro _ _ _ H) | (refine l_st (t_build0 H rfl ?_); clear H; intro _ _ _ _ H) | (refine l_st (z_sto H ?_); clear H; intro _ H) | ((first | refine c_cond ⟨rfl, rfl⟩ ?_ ?_ | refine c_ncond ⟨rfl, rfl⟩ ?_ ?_ | refine l_split rfl rfl ?_ ?_ | refine q_split rfl rfl ?_ ?_ | refine l_nsplit rfl rfl ?_ ?_ | refine q_nsplit rfl rfl ?_ ?_) <;> intro _ <;> try (exfalso; omega)) | (refine l_st (k_call1 evs_auto H ca_Lu1 rfl ?_); clear H; intro _ _ H) | (refine l_st (k_callg1 evs_auto rfl rfl rfl H ca_Lu1 rfl ?_); clear H; intro _ _ H) | refine kq_call1 evs_auto H (fun _ H => ca_Lu1) rfl ?_ | refine kq_callg1 evs_auto rfl rfl rfl H (fun _ H => ca_Lu1) rfl ?_)
  have hsx := sameExtss_any _ (betwSp p q).1 (betwSp p q).1 A12 A13 c12 c13 _ (H.fact _ mem_auto) (H.fact _ mem_auto)
  rw [decide_eq_true rfl] at hsx
  refine l_st (k_callg1 evs_auto rfl rfl rfl H hsx rfl ?_)
  clear H hsx; intro _ _ H
  repeat' (first | (apply l_rd; exact rd_go; rfl) | (apply q_rd; exact rd_go; rfl) | refine stp ?_ | refine bk_o rfl ?_ | refine c_true ⟨rfl, rfl⟩ ?_ | refine c_false ⟨rfl, rfl⟩ ?_ | (apply l_rdg; rfl; rfl; rfl; exact rd_go; rfl) | refine l_skip rfl rfl rfl rfl ?_ | (apply q_rdg; rfl; rfl; rfl; exact rd_go; rfl) | refine q_skip rfl rfl rfl rfl ?_ | refine c_draw H (by kernel_rfl) ?_ | (refine q_end ?_; clear H; intro _ H) | ((first | refine l_st (z_box H ?_) | refine l_st (s_alloc H rfl ?_)); clear H; intro _ _ _ H) | (refine l_st (t_build0 H rfl ?_); clear H; intro _ _ _ _ H) | (refine l_st (z_sto H ?_); clear H; intro _ H) | ((first | refine c_cond ⟨rfl, rfl⟩ ?_ ?_ | refine c_ncond ⟨rfl, rfl⟩ ?_ ?_ | refine l_split rfl rfl ?_ ?_ | refine q_split rfl rfl ?_ ?_ | refine l_nsplit rfl rfl ?_ ?_ | refine q_nsplit rfl rfl ?_ ?_) <;> intro _ <;> try (exfalso; omega)) | (refine l_st (k_call1 evs_auto H ca_Lu1 rfl ?_); clear H; intro _ _ H) | (refine l_st (k_callg1 evs_auto rfl rfl rfl H ca_Lu1 rfl ?_); clear H; intro _ _ H) | refine kq_call1 evs_auto H (fun _ H => ca_Lu1) rfl ?_ | refine kq_callg1 evs_auto rfl rfl rfl H (fun _ H => ca_Lu1) rfl ?_)
  exact ret1 H rfl rfl rfl (bv (decide_eq_true rfl))
end
end Go.Proofs.YtiolpldihoghiaaDoor

namespace Go.Proofs.YtiolpldihoghiaaDoor
open Go.RowKit
set_option linter.unusedVariables false
set_option linter.unusedSimpArgs false
set_option maxHeartbeats 8000000
theorem ca_Lu2 {k : FuncId} {vs : List Value} {w1 : World} {v : Value} (h : Ret Tryd.prog k vs w1 (fun u _ => u = v) := by first | exact rFewPt_any _ _ _ _ _ _ _ _ _ (by assumption) (H.fact _ mem_auto) (H.fact _ mem_auto) (H.fact _ mem_auto) | exact awake_any _ _ (H.mu_lt hM) (H.fact _ mem_auto)) : Ret Tryd.prog k vs w1 (fun u _ => u = v) := h
theorem rSameCyc_any (M : Nat → Prop) (y : Cyc) (A1 A2 B1 B2 : Option Addr) (c1 c2 d1 d2 : Nat) (w : World) (h1 : Stab w M (Row (kInt .i64) 1 A1 y.pos)) (h2 : Stab w M (Row kWr 3 A2 y.writes)) (k1 : Stab w M (Row (kInt .i64) 1 B1 y.pos)) (k2 : Stab w M (Row kWr 3 B2 y.writes)) :
    Ret Tryd.prog 19 [.agg [.int .i64 y.base, .int .i64 y.number, .int .i64 y.time, .slice A1 y.pos.length c1, .slice A2 y.writes.length c2].toArray, .agg [.int .i64 y.base, .int .i64 y.number, .int .i64 y.time, .slice B1 y.pos.length d1, .slice B2 y.writes.length d2].toArray] w fun v _ => v = .bool true := by
  refine enter (M := M) (F := [Row (kInt .i64) 1 A1 y.pos, Row kWr 3 A2 y.writes, Row (kInt .i64) 1 B1 y.pos, Row kWr 3 B2 y.writes]) Tryd.func19 rfl rfl rfl (by simpa using ⟨h1, h2, k1, k2⟩) fun H => ?_
  repeat' (first | (apply l_rd; exact rd_go; rfl) | (apply q_rd; exact rd_go; rfl) | refine stp ?_ | refine bk_o rfl ?_ | refine c_true ⟨rfl, rfl⟩ ?_ | refine c_false ⟨rfl, rfl⟩ ?_ | (apply l_rdg; rfl; rfl; rfl; exact rd_go; rfl) | refine l_skip rfl rfl rfl rfl ?_ | (apply q_rdg; rfl; rfl; rfl; exact rd_go; rfl) | refine q_skip rfl rfl rfl rfl ?_ | refine c_draw H (by kernel_rfl) ?_ | (refine q_end ?_; clear H; intro _ H) | ((first | refine l_st (z_box H ?_) | refine l_st (s_alloc H rfl ?_)); clear H; intro _ _ _ H) | (refine l_st (t_build0 H rfl ?_); clear H; intro _ _ _ _ H) | (refine l_st (z_sto H ?_); clear H; intro _ H) | ((first | refine c_cond ⟨rfl, rfl⟩ ?_ ?_ | refine c_ncond ⟨rfl, rfl⟩ ?_ ?_ | refine l_split rfl rfl ?_ ?_ | refine q_split rfl rfl ?_ ?_ | refine l_nsplit rfl rfl ?_ ?_ | refine q_nsplit rfl rfl ?_ ?_) <;> intro _ <;> try (exfalso; omega)) | (refine l_st (k_call1 evs_auto H ca_Lu2 rfl ?_); clear H; intro _ _ H) | (refine l_st (k_callg1 evs_auto rfl rfl rfl H ca_Lu2 rfl ?_); clear H; intro _ _ H) | refine kq_call1 evs_auto H (fun _ H => ca_Lu2) rfl ?_ | refine kq_callg1 evs_auto rfl rfl rfl H (fun _ H => ca_Lu2) rfl ?_)
  have hi := rSameInts23 _ y.pos y.pos A1 B1 c1 d1 _ (H.fact _ mem_auto) (H.fact _ mem_auto)
  rw [decide_eq_true rfl] at hi
  refine l_st (k_callg1 evs_auto rfl rfl rfl H hi rfl ?_)
  clear H hi; intro _ _ H
  repeat' (first | (apply l_rd; exact rd_go; rfl) | (apply q_rd; exact rd_go; rfl) | refine stp ?_ | refine bk_o rfl ?_ | refine c_true ⟨rfl, rfl⟩ ?_ | refine c_false ⟨rfl, rfl⟩ ?_ | (apply l_rdg; rfl; rfl; rfl; exact rd_go; rfl) | refine l_skip rfl rfl rfl rfl ?_ | (apply q_rdg; rfl; rfl; rfl; exact rd_go; rfl) | refine q_skip rfl rfl rfl rfl ?_ | refine c_draw H (by kernel_rfl) ?_ | (refine q_end ?_; clear H; intro _ H) | ((first | refine l_st (z_box H ?_) | refine l_st (s_alloc H rfl ?_)); clear H; intro _ _ _ H) | (refine l_st (t_build0 H rfl ?_); clear H; intro _ _ _ _ H) | (refine l_st (z_sto H ?_); clear H; intro _ H) | ((first | refine c_cond ⟨rfl, rfl⟩ ?_ ?_ | refine c_ncond ⟨rfl, rfl⟩ ?_ ?_ | refine l_split rfl rfl ?_ ?_ | refine q_split rfl rfl ?_ ?_ | refine l_nsplit rfl rfl ?_ ?_ | refine q_nsplit rfl rfl ?_ ?_) <;> intro _ <;> try (exfalso; omega)) | (refine l_st (k_call1 evs_auto H ca_Lu2 rfl ?_); clear H; intro _ _ H) | (refine l_st (k_callg1 evs_auto rfl rfl rfl H ca_Lu2 rfl ?_); clear H; intro _ _ H) | refine kq_call1 evs_auto H (fun _ H => ca_Lu2) rfl ?_ | refine kq_callg1 evs_auto rfl rfl rfl H (fun _ H => ca_Lu2) rfl ?_)
  have hw := sameWrs_any _ y.writes y.writes A2 B2 c2 d2 _ (H.fact _ mem_auto) (H.fact _ mem_auto)
  rw [decide_eq_true rfl] at hw
  refine l_st (k_callg1 evs_auto rfl rfl rfl H hw rfl ?_)
  clear H hw; intro _ _ H
  repeat' (first | (apply l_rd; exact rd_go; rfl) | (apply q_rd; exact rd_go; rfl) | refine stp ?_ | refine bk_o rfl ?_ | refine c_true ⟨rfl, rfl⟩ ?_ | refine c_false ⟨rfl, rfl⟩ ?_ | (apply l_rdg; rfl; rfl; rfl; exact rd_go; rfl) | refine l_skip rfl rfl rfl rfl ?_ | (apply q_rdg; rfl; rfl; rfl; exact rd_go; rfl) | refine q_skip rfl rfl rfl rfl ?_ | refine c_draw H (by kernel_rfl) ?_ | (refine q_end ?_; clear H; intro _ H) | ((first | refine l_st (z_box H ?_) | refine l_st (s_alloc H rfl ?_)); clear H; intro _ _ _ H) | (refine l_st (t_build0 H rfl ?_); clear H; intro _ _ _ _ H) | (refine l_st (z_sto H ?_); clear H; intro _ H) | ((first | refine c_cond ⟨rfl, rfl⟩ ?_ ?_ | refine c_ncond ⟨rfl, rfl⟩ ?_ ?_ | refine l_split rfl rfl ?_ ?_ | refine q_split rfl rfl ?_ ?_ | refine l_nsplit rfl rfl ?_ ?_ | refine q_nsplit rfl rfl ?_ ?_) <;> intro _ <;> try (exfalso; omega)) | (refine l_st (k_call1 evs_auto H ca_Lu2 rfl ?_); clear H; intro _ _ H) | (refine l_st (k_callg1 evs_auto rfl rfl rfl H ca_Lu2 rfl ?_); clear H; intro _ _ H) | refine kq_call1 evs_auto H (fun _ H => ca_Lu2) rfl ?_ | refine kq_callg1 evs_auto rfl rfl rfl H (fun _ H => ca_Lu2) rfl ?_)
  exact ret1 H rfl rfl rfl rfl
theorem contents_len {p q : Pt} {n t : Int} {pos : List Int} : (cycSp p q n t pos).1.writes.length ≤ 4096 * 9 := by
  by_cases h1 : (betwSp p q).2 ≠ 0
  · unfold cycSp; rw [if_pos h1]; simp [cyc0]
  · by_cases h2 : n ≤ (anc p.lin q.lin).1 ∨ n < lastTo q.lin
    · unfold cycSp; rw [if_neg h1, if_pos h2]; simp [cyc0]
    · have hok := betwOk (p := p) (q := q) (by omega)
      obtain ⟨l1, l2, l3, l4, l5⟩ := hok.len
      have hc := contUpto_len q.im (betwSp p q).1 (fun x hx => by
        have hx' : x ∈ betw p q := by rw [hok.eq] at hx; exact hx
        obtain ⟨j, hj, rfl⟩ := List.mem_iff_getElem.1 hx'
        exact (hok.at_ (by omega) hj).2.1) (betwSp p q).1.length
      have hl : (betwSp p q).1.length = q.im.length := by rw [hok.eq]; exact l2
      unfold cycSp; rw [if_neg h1, if_neg h2]
      simp only
      split
      · simp [cyc0]
      · simp only [contents]; omega
theorem cycSp_pos {p q : Pt} {n t : Int} {pos : List Int} (h : pos.length ≤ 1000000) : (cycSp p q n t pos).1.pos.length ≤ 1000000 := by
  by_cases h1 : (betwSp p q).2 ≠ 0
  · unfold cycSp; rw [if_pos h1]; simp [cyc0]
  · by_cases h2 : n ≤ (anc p.lin q.lin).1 ∨ n < lastTo q.lin
    · unfold cycSp; rw [if_neg h1, if_pos h2]; simp [cyc0]
    · unfold cycSp; rw [if_neg h1, if_neg h2]
      simp only
      split
      · simp [cyc0]
      · exact h
section
variable (M : Nat → Prop) (w : World) (hM : ∀ b, M b → b < w.heap.size) (p q : Pt) (A1 A2 A3 B1 B2 B3 Ap : Option Addr) (c1 c2 c3 d1 d2 d3 cp : Nat) (number time : Int) (pos : List Int) (hs : rng .i64 p.site) (hs' : rng .i64 q.site)
  (h1 : Stab w M (Row kSpan 3 A1 p.lin)) (h2 : Stab w M (Row kBm 2 A2 p.dirty)) (h3 : Stab w M (Row kVol 1 A3 p.im)) (k1 : Stab w M (Row kSpan 3 B1 q.lin)) (k2 : Stab w M (Row kBm 2 B2 q.dirty)) (k3 : Stab w M (Row kVol 1 B3 q.im)) (hp : Stab w M (Row (kInt .i64) 1 Ap pos)) (hT : Stab w M TabF)
include hM hs hs' h1 h2 h3 k1 k2 k3 hp hT
theorem cycles_any :
    Ret Tryd.prog 4 [.agg [.int .i64 p.site, .slice A1 p.lin.length c1, .slice A2 p.dirty.length c2, .slice A3 p.im.length c3].toArray, .agg [.int .i64 q.site, .slice B1 q.lin.length d1, .slice B2 q.dirty.length d2, .slice B3 q.im.length d3].toArray, .agg [.int .i64 number, .int .i64 time, .slice Ap pos.length cp].toArray] w fun v _ => v = .bool true := by
  refine enter (M := M) (F := [Row kSpan 3 A1 p.lin, Row kBm 2 A2 p.dirty, Row kVol 1 A3 p.im, Row kSpan 3 B1 q.lin, Row kBm 2 B2 q.dirty, Row kVol 1 B3 q.im, Row (kInt .i64) 1 Ap pos, TabF]) Tryd.func4 rfl rfl rfl (by simpa using ⟨h1, h2, h3, k1, k2, k3, hp, hT⟩) fun H => ?_
  repeat' (first | (apply l_rd; exact rd_go; rfl) | (apply q_rd; exact rd_go; rfl) | refine stp ?_ | refine bk_o rfl ?_ | refine c_true ⟨rfl, rfl⟩ ?_ | refine c_false ⟨rfl, rfl⟩ ?_ | (apply l_rdg; rfl; rfl; rfl; exact rd_go; rfl) | refine l_skip rfl rfl rfl rfl ?_ | (apply q_rdg; rfl; rfl; rfl; exact rd_go; rfl) | refine q_skip rfl rfl rfl rfl ?_ | refine c_draw H (by kernel_rfl) ?_ | (refine q_end ?_; clear H; intro _ H) | ((first | refine l_st (z_box H ?_) | refine l_st (s_alloc H rfl ?_)); clear H; intro _ _ _ H) | (refine l_st (t_build0 H rfl ?_); clear H; intro _ _ _ _ H) | (refine l_st (z_sto H ?_); clear H; intro _ H) | ((first | refine c_cond ⟨rfl, rfl⟩ ?_ ?_ | refine c_ncond ⟨rfl, rfl⟩ ?_ ?_ | refine l_split rfl rfl ?_ ?_ | refine q_split rfl rfl ?_ ?_ | refine l_nsplit rfl rfl ?_ ?_ | refine q_nsplit rfl rfl ?_ ?_) <;> intro _ <;> try (exfalso; omega)) | (refine l_st (k_call1 evs_auto H ca_Lu2 rfl ?_); clear H; intro _ _ H) | (refine l_st (k_callg1 evs_auto rfl rfl rfl H ca_Lu2 rfl ?_); clear H; intro _ _ H) | refine kq_call1 evs_auto H (fun _ H => ca_Lu2) rfl ?_ | refine kq_callg1 evs_auto rfl rfl rfl H (fun _ H => ca_Lu2) rfl ?_)
  · exact ret1 H rfl rfl rfl rfl
  · exact ret1 H rfl rfl rfl rfl
  · exact ret1 H rfl rfl rfl rfl
  have hfp : fewPt p := by assumption
  have hfq : fewPt q := by assumption
  obtain ⟨p1, p2⟩ := fewPt_len hfp
  obtain ⟨q1, q2⟩ := fewPt_len hfq
  have hpl : pos.length ≤ 1000000 := by omega
  have hcl := contents_len (p := p) (q := q) (n := number) (t := time) (pos := pos)
  have hcp := cycSp_pos (p := p) (q := q) (n := number) (t := time) hpl
  refine l_st (k_call evs_auto H (cycle_any H.mu _ (H.mu_lt hM) p q A1 A2 A3 B1 B2 B3 Ap c1 c2 c3 d1 d2 d3 cp hs p1 p2 hs' q1 q2 number time pos hpl (H.fact _ mem_auto) (H.fact _ mem_auto) (H.fact _ mem_auto) (H.fact _ mem_auto) (H.fact _ mem_auto) (H.fact _ mem_auto) (H.fact _ mem_auto) (H.fact _ mem_auto)) rfl ?_)
  rintro _ w1 ⟨v1, v2, rfl, hf1, hf2⟩ hb H1
  obtain ⟨A10, cA10, hv1, _, _, hr1⟩ := hf1.row (H.mu_lt hM) Nat.zero_lt_one (by omega)
  obtain ⟨A11, cA11, hv2, _, _, hr2⟩ := hf2.row (H.mu_lt hM) (by decide) (by omega)
  subst hv1; subst hv2
  have H2 := ((H1.add hr1).add hr2).add (H1.fact TabF mem_auto)
  clear hf1 hf2 hr1 hr2 H H1; have H := H2; clear H2
  repeat' (first | (apply l_rd; exact rd_go; rfl) | (apply q_rd; exact rd_go; rfl) | refine stp ?_ | refine bk_o rfl ?_ | refine c_true ⟨rfl, rfl⟩ ?_ | refine c_false ⟨rfl, rfl⟩ ?_ | (apply l_rdg; rfl; rfl; rfl; exact rd_go; rfl) | refine l_skip rfl rfl rfl rfl ?_ | (apply q_rdg; rfl; rfl; rfl; exact rd_go; rfl) | refine q_skip rfl rfl rfl rfl ?_ | refine c_draw H (by kernel_rfl) ?_ | (refine q_end ?_; clear H; intro _ H) | ((first | refine l_st (z_box H ?_) | refine l_st (s_alloc H rfl ?_)); clear H; intro _ _ _ H) | (refine l_st (t_build0 H rfl ?_); clear H; intro _ _ _ _ H) | (refine l_st (z_sto H ?_); clear H; intro _ H) | ((first | refine c_cond ⟨rfl, rfl⟩ ?_ ?_ | refine c_ncond ⟨rfl, rfl⟩ ?_ ?_ | refine l_split rfl rfl ?_ ?_ | refine q_split rfl rfl ?_ ?_ | refine l_nsplit rfl rfl ?_ ?_ | refine q_nsplit rfl rfl ?_ ?_) <;> intro _ <;> try (exfalso; omega)) | (refine l_st (k_call1 evs_auto H ca_Lu2 rfl ?_); clear H; intro _ _ H) | (refine l_st (k_callg1 evs_auto rfl rfl rfl H ca_Lu2 rfl ?_); clear H; intro _ _ H) | refine kq_call1 evs_auto H (fun _ H => ca_Lu2) rfl ?_ | refine kq_callg1 evs_auto rfl rfl rfl H (fun _ H => ca_Lu2) rfl ?_)
  refine l_st (k_call evs_auto H (rCycle_any H.mu _ (H.mu_lt hM) p q A1 A2 A3 B1 B2 B3 Ap c1 c2 c3 d1 d2 d3 cp hs p1 p2 hs' q1 q2 number time pos hpl (H.fact _ mem_auto) (H.fact _ mem_auto) (H.fact _ mem_auto) (H.fact _ mem_auto) (H.fact _ mem_auto) (H.fact _ mem_auto) (H.fact _ mem_auto)) rfl ?_)
  rintro _ w2 ⟨v1, v2, rfl, hf1, hf2⟩ hb H1
  obtain ⟨A12, cA12, hv1, _, _, hr1⟩ := hf1.row (H.mu_lt hM) Nat.zero_lt_one (by omega)
  obtain ⟨A13, cA13, hv2, _, _, hr2⟩ := hf2.row (H.mu_lt hM) (by decide) (by omega)
  subst hv1; subst hv2
  have H2 := ((H1.add hr1).add hr2).add (H1.fact TabF mem_auto)
  clear hf1 hf2 hr1 hr2 H H1; have H := H2; clear H2
  repeat' (first | (apply l_rd; exact rd_go; rfl) | (apply q_rd; exact rd_go; rfl) | refine stp ?_ | refine bk_o rfl ?_ | refine c_true ⟨rfl, rfl⟩ ?_ | refine c_false ⟨rfl, rfl⟩ ?_ | (apply l_rdg; rfl; rfl; rfl; exact rd_go; rfl) | refine l_skip rfl rfl rfl rfl ?_ | (apply q_rdg; rfl; rfl; rfl; exact rd_go; rfl) | refine q_skip rfl rfl rfl rfl ?_ | refine c_draw H (by kernel_rfl) ?_ | (refine q_end ?_; clear H; intro _ H) | ((first | refine l_st (z_box H ?_) | refine l_st (s_alloc H rfl ?_)); clear H; intro _ _ _ H) | (refine l_st (t_build0 H rfl ?_); clear H; intro _ _ _ _ H) | (refine l_st (z_sto H ?_); clear H; intro _ H) | ((first | refine c_cond ⟨rfl, rfl⟩ ?_ ?_ | refine c_ncond ⟨rfl, rfl⟩ ?_ ?_ | refine l_split rfl rfl ?_ ?_ | refine q_split rfl rfl ?_ ?_ | refine l_nsplit rfl rfl ?_ ?_ | refine q_nsplit rfl rfl ?_ ?_) <;> intro _ <;> try (exfalso; omega)) | (refine l_st (k_call1 evs_auto H ca_Lu2 rfl ?_); clear H; intro _ _ H) | (refine l_st (k_callg1 evs_auto rfl rfl rfl H ca_Lu2 rfl ?_); clear H; intro _ _ H) | refine kq_call1 evs_auto H (fun _ H => ca_Lu2) rfl ?_ | refine kq_callg1 evs_auto rfl rfl rfl H (fun _ H => ca_Lu2) rfl ?_)
  have hsame := rSameCyc_any _ (cycSp p q number time pos).1 A10 A11 A12 A13 cA10 cA11 cA12 cA13 _ (H.fact _ mem_auto) (H.fact _ mem_auto) (H.fact _ mem_auto) (H.fact _ mem_auto)
  refine l_st (k_callg1 evs_auto rfl rfl rfl H hsame rfl ?_)
  clear H hsame; intro _ _ H
  repeat' (first | (apply l_rd; exact rd_go; rfl) | (apply q_rd; exact rd_go; rfl) | refine stp ?_ | refine bk_o rfl ?_ | refine c_true ⟨rfl, rfl⟩ ?_ | refine c_false ⟨rfl, rfl⟩ ?_ | (apply l_rdg; rfl; rfl; rfl; exact rd_go; rfl) | refine l_skip rfl rfl rfl rfl ?_ | (apply q_rdg; rfl; rfl; rfl; exact rd_go; rfl) | refine q_skip rfl rfl rfl rfl ?_ | refine c_draw H (by kernel_rfl) ?_ | (refine q_end ?_; clear H; intro _ H) | ((first | refine l_st (z_box H ?_) | refine l_st (s_alloc H rfl ?_)); clear H; intro _ _ _ H) | (refine l_st (t_build0 H rfl ?_); clear H; intro _ _ _ _ H) | (refine l_st (z_sto H ?_); clear H; intro _ H) | ((first | refine c_cond ⟨rfl, rfl⟩ ?_ ?_ | refine c_ncond ⟨rfl, rfl⟩ ?_ ?_ | refine l_split rfl rfl ?_ ?_ | refine q_split rfl rfl ?_ ?_ | refine l_nsplit rfl rfl ?_ ?_ | refine q_nsplit rfl rfl ?_ ?_) <;> intro _ <;> try (exfalso; omega)) | (refine l_st (k_call1 evs_auto H ca_Lu2 rfl ?_); clear H; intro _ _ H) | (refine l_st (k_callg1 evs_auto rfl rfl rfl H ca_Lu2 rfl ?_); clear H; intro _ _ H) | refine kq_call1 evs_auto H (fun _ H => ca_Lu2) rfl ?_ | refine kq_callg1 evs_auto rfl rfl rfl H (fun _ H => ca_Lu2) rfl ?_)
  exact ret1 H rfl rfl rfl (bv (decide_eq_true rfl))
end
end Go.Proofs.YtiolpldihoghiaaDoor

namespace Go.Proofs.YtiolpldihoghiaaDoor
open Go.RowKit
set_option linter.unusedVariables false
set_option linter.unusedSimpArgs false
/-- A target: a number, a time and positions. -/
structure Tgt where
  number : Int
  time : Int
  pos : List Int
def kTgt : Rp Tgt := fun w x cs => ∃ A c, cs = [.int .i64 x.number, .int .i64 x.time, .slice A x.pos.length c] ∧ Row (kInt .i64) 1 A x.pos w
theorem opTgt : Opens Tryd.prog 42 3 kTgt := by
  intro H enc w fuel cs x h hw
  have hl := opLen (t := 42) (sz := 3) (by kernel_rfl) (by kernel_rfl) h hw
  obtain ⟨a, ha, ra⟩ := opField (off := 0) 0 (by kernel_rfl) opInt h hw
  obtain ⟨b, hb, rb⟩ := opField (off := 1) 1 (by kernel_rfl) opInt h hw
  obtain ⟨d, A, c, hd, b1, b2, b3⟩ := opField (off := 2) 2 (by kernel_rfl) opInts h hw
  obtain ⟨u, v, q, rfl⟩ := len3 hl
  simp at ha hb hd; subst ha; subst hb; subst hd; exact ⟨rfl, ⟨a, b, d⟩, A, c, rfl, b3⟩
end Go.Proofs.YtiolpldihoghiaaDoor

namespace Go.Proofs.YtiolpldihoghiaaDoor
open Go.RowKit Go.ChangeShapes Go.WideShapes
set_option linter.unusedVariables false
set_option linter.unusedSimpArgs false
set_option maxRecDepth 100000
theorem cycles_met (os : Os) (args : Array Value) : laidMetH Tryd.prog [("math/bits.deBruijn64tab", Rows.laid_math_bits_deBruijn64tab)] ((World.doorLaid Tryd.prog 400 os).forCall (fun _ _ => 0) ⟨#[], args, []⟩).memory := by
  rw [MakeChecks.laidMetH_plain _ _ _ (by kernel_rfl)]
  exact laidMet_of_run' 8 (by kernel_rfl) (by kernel_rfl)
theorem cycles_lifted (os : Os) (started : os.Started) (H : Type) (enc : TypeId × Value → H) :
    ReturnsInHanded {} Tryd.checked os 4 .any (fun w args => (Rows.reverseCyclesSpec.pre enc Tryd.prog Tryd.f4 [] false w args ∧ laidMetH Tryd.prog [("math/bits.deBruijn64tab", Rows.laid_math_bits_deBruijn64tab)] w) ∧ sizedMet enc Tryd.prog Tryd.f4 (OpenSpec.ofChange Rows.reverseCyclesSpec) false w args)
      (Rows.reverseCyclesSpec.post enc Tryd.prog Tryd.f4 false true false false) := by
  refine returnsInHanded_of_change_and (C := Tryd.checked) (X := fun w _ => laidMetH Tryd.prog [("math/bits.deBruijn64tab", Rows.laid_math_bits_deBruijn64tab)] w) (fun _ _ _ hh h => h.of_heap hh) own_knob started (by kernel_rfl) Tryd.func4
    (ChangeSpec.witness_shaped (enc := enc) (C := Tryd.checked) (os := os) (X := fun w _ => laidMetH Tryd.prog [("math/bits.deBruijn64tab", Rows.laid_math_bits_deBruijn64tab)] w) false (World.doorLaid Tryd.prog 400 os) #[.agg #[.int .i64 0, .slice none 0 0, .slice none 0 0, .slice none 0 0], .agg #[.int .i64 0, .slice none 0 0, .slice none 0 0, .slice none 0 0], .agg #[.int .i64 0, .int .i64 0, .slice none 0 0]] 8 rfl (World.shaped_of_RefB (by kernel_rfl) (by kernel_rfl)) (by kernel_rfl) (by kernel_rfl) (by kernel_rfl) (cycles_met os _)) ?_
  intro W base args ds gs before hval0 hW hcond hsz hL hh
  have hval : ∀ (j : Nat) t v, Tryd.f4.params[j]? = some t → args[j]? = some v → Value.okWide Tryd.prog W .any base t v := hval0
  obtain ⟨pa, pv, hA0, hV0, hps, _, _⟩ := id hW
  have hA1 : DataW.TrodAll enc Tryd.prog W 0 (fun _ => true) true Tryd.f4.params.toList args.toList ds pa := hA0
  have hV : DataW.TrodVars enc Tryd.prog W (fun _ => true) [] gs pv := hV0
  obtain ⟨rfl, rfl⟩ := trodVars_none hV
  have hA := hA1
  rw [Tryd.params4] at hA hval
  obtain ⟨v0, v1, v2, d0, d1, d2, p0, p1, p2, rfl, rfl, rfl, t0, t1, t2⟩ := trodAll_three hA
  obtain ⟨p, _, rfl, A1, c1, A2, c2, A3, c3, rfl, hs, ⟨_, _, h1⟩, ⟨_, _, h2⟩, ⟨_, _, h3⟩⟩ := argAgg opPt (by kernel_rfl) (hval 0 _ v0 rfl rfl) t0 (weight_at hsz 0 (by rw [Tryd.params4]; rfl) rfl)
  obtain ⟨q, _, rfl, B1, e1, B2, e2, B3, e3, rfl, hs', ⟨_, _, k1⟩, ⟨_, _, k2⟩, ⟨_, _, k3⟩⟩ := argAgg opPt (by kernel_rfl) (hval 1 _ v1 rfl rfl) t1 (weight_at hsz 1 (by rw [Tryd.params4]; rfl) rfl)
  obtain ⟨x, _, rfl, Ap, cp, rfl, hp⟩ := argAgg opTgt (by kernel_rfl) (hval 2 _ v2 rfl rfl) t2 (weight_at hsz 2 (by rw [Tryd.params4]; rfl) rfl)
  have hc := cycles_any (fun _ => False) W (fun _ h => h.elim) p q A1 A2 A3 B1 B2 B3 Ap c1 c2 c3 e1 e2 e3 cp x.number x.time x.pos hs hs' h1.stab h2.stab h3.stab k1.stab k2.stab k3.stab hp.stab (tab_of_laid hL).stab
  refine Calls.mono hc.out ?_
  rintro _ W' ⟨v, rfl, hb, rfl⟩
  have hlt : ∀ x ∈ p0 ++ p1 ++ p2, x.block < W.heap.size := fun x hx => hW.lt x (by rw [hps]; exact List.mem_append_left _ hx)
  refine ⟨_, rfl, post_below (pa := p0 ++ p1 ++ p2) (pv := []) hW (fun _ _ _ => trodAll_mk1 (shut_bool Tryd.underlying4 true)) (fun sp hsp => ?_) (fun _ _ => rfl) hps hb (ok_one (by kernel_rfl) rfl (okWide_bool_mk Tryd.underlying4 true))⟩
  exact DataW.TrodAll.respare kids_ full_ (by rw [Tryd.params4]; decide) (trodAll_below hb hlt hA1) (fun x hx => hsp x (by rw [hps]; exact List.mem_append_left _ hx))
theorem cycles_holds : Rows.ReverseCyclesSaid :=
  OpenClaim.holds_of_wide 4 Tryd.f4 rfl rfl rfl rfl rfl rfl rfl ⟨rfl, rfl, rfl, rfl, rfl⟩ rfl rfl rfl rfl rfl (by kernel_rfl) Tryd.func4 (by kernel_rfl)
    (of_decide_eq_true (by kernel_rfl)) (by unfold Func.isWrapper; first | (rw [if_pos (by decide +kernel)]; kernel_rfl) | (rw [if_neg (by decide +kernel)]; exact ⟨rfl, rfl⟩))
    (fun os started H enc _ => cycles_lifted os started H enc)
theorem cycles_card : Rows.ReverseCyclesCardSaid :=
  Claim7.holds_tied_plain_at .later [] [.data] true (true, "0fbea9f7a9363770ef7d7c442e923654834488058ca280ed95a31cbd94370fd7") false
    cycles_holds (fun _ h => by cases h) (by kernel_rfl) (fun _ h => by cases h) reverseCycles_row_tie rfl ⟨rfl, rfl⟩ (by kernel_rfl) rfl
    (fun f fn hf hfn => by
      obtain rfl : f = 4 := Option.some.inj ((show Tryd.prog.funcNamed "standby/standbylaw47.ReverseCycles" = some 4 by kernel_rfl).symm.trans hf) |>.symm
      obtain rfl : fn = Tryd.f4 := (Option.some.inj (Tryd.func4.symm.trans hfn)).symm
      exact ⟨by kernel_rfl, fun j t ht => by
        rw [Tryd.params4] at ht
        have hm := Array.mem_of_getElem? ht
        have hall : (([27, 27, 42] : List Nat).all fun u => !Tryd.prog.wantsStandIn u) = true := by kernel_rfl
        have hm' : t ∈ ([27, 27, 42] : List Nat) := by simpa using hm
        exact (show Tryd.prog.wantsStandIn t = false by simpa using List.all_eq_true.1 hall t hm')⟩)
    (by kernel_rfl)
#print axioms cycles_card
end Go.Proofs.YtiolpldihoghiaaDoor
