/- bitmap.Or and the reference's Or: the contracts. The reference's Or and Set: the contracts. FromExtents, of the program and of the reference: the contracts. The reference's Get, Same, SameExtents and Extents: the contracts. What the functions on sizes, lineages, points and cycles return, in plain Lean. The reference's Extents, Same and SameAll: the contracts. math/bits.TrailingZeros64: the contract. -/
import Derived.Test.YtiolpldihoghiaaDoorC4
import Derived.Test.YtiolpldihoghiaaDoorC2
import Derived.Test.YtiolpldihoghiaaDoorC3
namespace Go.Proofs.YtiolpldihoghiaaDoor
open Go.RowKit
set_option linter.unusedVariables false
set_option linter.unusedSimpArgs false
set_option maxHeartbeats 4000000
theorem ca_Bm5 {k : FuncId} {vs : List Value} {w1 : World} {v : Value} (h : Ret Tryd.prog k vs w1 (fun u _ => u = v) := by first | exact bCheck_any _ _ _ _ _ (by assumption) (H.fact _ mem_auto) | exact rCheck_any _ _ _ _ _ (by assumption) (H.fact _ mem_auto)) : Ret Tryd.prog k vs w1 (fun u _ => u = v) := h
theorem or_step {a b : Bm} {i : Nat} (h1 : i < a.words.length) (h2 : i < b.words.length) (k : Nat) (hk : k < 64) :
    (((a.words[i].toNat ||| b.words[i].toNat : Nat) : Int)).toNat.testBit k = (bitOf a.words (64 * i + k) || bitOf b.words (64 * i + k)) := by
  rw [or_bit, at_bit h1 hk, at_bit h2 hk]
theorem both_any (M : Nat → Prop) (a b : Bm) (A B : Option Addr) (c d : Nat) (w : World) (hs : rng .i64 a.size) (hs' : rng .i64 b.size) (hF : Stab w M (Row (kInt .u64) 1 A a.words)) (hF' : Stab w M (Row (kInt .u64) 1 B b.words)) :
    Ret Tryd.prog 125 [.agg [.int .i64 a.size, .slice A a.words.length c].toArray, .agg [.int .i64 b.size, .slice B b.words.length d].toArray, .func (.func 126) #[] #[]] w (BmRet M w (orBm a b)) := by
  have hr := rng_row hF
  have hr' := rng_row hF'
  refine enter (M := M) (F := [Row (kInt .u64) 1 A a.words, Row (kInt .u64) 1 B b.words]) Tryd.func125 rfl rfl rfl (by simpa using ⟨hF, hF'⟩) fun H => ?_
  repeat' (first | (apply l_rd; exact rd_go; rfl) | (apply q_rd; exact rd_go; rfl) | refine stp ?_ | refine bk_o rfl ?_ | refine c_true ⟨rfl, rfl⟩ ?_ | refine c_false ⟨rfl, rfl⟩ ?_ | (apply l_rdg; rfl; rfl; rfl; exact rd_go; rfl) | refine l_skip rfl rfl rfl rfl ?_ | (apply q_rdg; rfl; rfl; rfl; exact rd_go; rfl) | refine q_skip rfl rfl rfl rfl ?_ | (refine q_end ?_; clear H; intro _ H) | ((first | refine l_st (z_box H ?_) | refine l_st (s_alloc H rfl ?_)); clear H; intro _ _ _ H) | (refine l_st (t_build0 H rfl ?_); clear H; intro _ _ _ _ H) | (refine l_st (z_sto H ?_); clear H; intro _ H) | ((first | refine c_cond ⟨rfl, rfl⟩ ?_ ?_ | refine c_ncond ⟨rfl, rfl⟩ ?_ ?_ | refine l_split rfl rfl ?_ ?_ | refine q_split rfl rfl ?_ ?_ | refine l_nsplit rfl rfl ?_ ?_ | refine q_nsplit rfl rfl ?_ ?_) <;> intro _ <;> try (exfalso; omega)) | (refine l_st (k_call1 evs_auto H ca_Bm5 rfl ?_); clear H; intro _ _ H) | (refine l_st (k_callg1 evs_auto rfl rfl rfl H ca_Bm5 rfl ?_); clear H; intro _ _ H) | refine kq_call1 evs_auto H (fun _ H => ca_Bm5) rfl ?_ | refine kq_callg1 evs_auto rfl rfl rfl H (fun _ H => ca_Bm5) rfl ?_)
  · have h : a.err ≠ 0 := by assumption
    rw [Bm.err_ne h]
    refine retct (i := 0) H rfl rfl rfl rfl rfl rfl rfl (bm_ret0 H ?_); unfold orBm; rw [if_pos h]
  · have h : ¬ a.err ≠ 0 := by assumption
    have h' : b.err ≠ 0 := by assumption
    rw [Bm.err_ne h']
    refine retct (i := 0) H rfl rfl rfl rfl rfl rfl rfl (bm_ret0 H ?_); unfold orBm; rw [if_neg h, if_pos h']
  · have h : ¬ a.err ≠ 0 := by assumption
    have h' : ¬ b.err ≠ 0 := by assumption
    refine retct (i := 0) H rfl rfl rfl rfl rfl rfl rfl (bm_ret0 H ?_); unfold orBm; rw [if_neg h, if_neg h', if_pos (by assumption)]
  have h : ¬ a.err ≠ 0 := by assumption
  have h' : ¬ b.err ≠ 0 := by assumption
  have hsz : ¬ a.size ≠ b.size := by assumption
  obtain ⟨h3, h4, h5⟩ := Bm.fine_len (b := a) (by omega)
  obtain ⟨k3, k4, k5⟩ := Bm.fine_len (b := b) (by omega)
  have hlen : a.words.length = b.words.length := by omega
  refine l_st (t_make (n := a.words.length) H ⟨rfl, rfl⟩ ⟨rfl, rfl⟩ rfl (by omega) rfl ?_)
  clear H; intro A1 c1 _ _ H
  rw [Nat.mul_one, ← List.map_replicate (f := Value.int .u64)] at H
  repeat' (first | (apply l_rd; exact rd_go; rfl) | (apply q_rd; exact rd_go; rfl) | refine stp ?_ | refine bk_o rfl ?_ | refine c_true ⟨rfl, rfl⟩ ?_ | refine c_false ⟨rfl, rfl⟩ ?_ | (apply l_rdg; rfl; rfl; rfl; exact rd_go; rfl) | refine l_skip rfl rfl rfl rfl ?_ | (apply q_rdg; rfl; rfl; rfl; exact rd_go; rfl) | refine q_skip rfl rfl rfl rfl ?_ | (refine q_end ?_; clear H; intro _ H) | ((first | refine l_st (z_box H ?_) | refine l_st (s_alloc H rfl ?_)); clear H; intro _ _ _ H) | (refine l_st (t_build0 H rfl ?_); clear H; intro _ _ _ _ H) | (refine l_st (z_sto H ?_); clear H; intro _ H) | ((first | refine c_cond ⟨rfl, rfl⟩ ?_ ?_ | refine c_ncond ⟨rfl, rfl⟩ ?_ ?_ | refine l_split rfl rfl ?_ ?_ | refine q_split rfl rfl ?_ ?_ | refine l_nsplit rfl rfl ?_ ?_ | refine q_nsplit rfl rfl ?_ ?_) <;> intro _ <;> try (exfalso; omega)) | (refine l_st (k_call1 evs_auto H ca_Bm5 rfl ?_); clear H; intro _ _ H) | (refine l_st (k_callg1 evs_auto rfl rfl rfl H ca_Bm5 rfl ?_); clear H; intro _ _ H) | refine kq_call1 evs_auto H (fun _ H => ca_Bm5) rfl ?_ | refine kq_callg1 evs_auto rfl rfl rfl H (fun _ H => ca_Bm5) rfl ?_)
  refine c_loopk [36] [2, 3, 4, 6, 10, 35] (fun n vs w' => ∃ (i : Nat) (cur : List Int), vs = [.int .i64 i] ∧ i ≤ a.words.length ∧ n = a.words.length - i ∧ cur.length = a.words.length ∧ (∀ x ∈ cur, rng .u64 x) ∧
      (∀ j, j < 64 * i → bitOf cur j = (bitOf a.words j || bitOf b.words j)) ∧ Hp w M w' _ [⟨.slice A1 a.words.length c1, 151, 1, a.words.length, cur.map (Value.int .u64)⟩] _) _ [_, _, _, _, _, _] rfl
      ⟨0, List.replicate a.words.length 0, rfl, Nat.zero_le _, rfl, List.length_replicate, fun x hx => by rw [(List.mem_replicate.1 hx).2]; simp only [rng]; omega, fun j h => by omega, H⟩ ?_
  clear H
  rintro n _ E0 w2 ⟨i, cur, rfl, hi, rfl, hcl, hcr, hb1, H⟩
  repeat' (first | (apply l_rd; exact rd_go; rfl) | (apply q_rd; exact rd_go; rfl) | refine stp ?_ | refine bk_o rfl ?_ | refine c_true ⟨rfl, rfl⟩ ?_ | refine c_false ⟨rfl, rfl⟩ ?_ | (apply l_rdg; rfl; rfl; rfl; exact rd_go; rfl) | refine l_skip rfl rfl rfl rfl ?_ | (apply q_rdg; rfl; rfl; rfl; exact rd_go; rfl) | refine q_skip rfl rfl rfl rfl ?_ | (refine q_end ?_; clear H; intro _ H) | ((first | refine l_st (z_box H ?_) | refine l_st (s_alloc H rfl ?_)); clear H; intro _ _ _ H) | (refine l_st (t_build0 H rfl ?_); clear H; intro _ _ _ _ H) | (refine l_st (z_sto H ?_); clear H; intro _ H) | ((first | refine c_cond ⟨rfl, rfl⟩ ?_ ?_ | refine c_ncond ⟨rfl, rfl⟩ ?_ ?_ | refine l_split rfl rfl ?_ ?_ | refine q_split rfl rfl ?_ ?_ | refine l_nsplit rfl rfl ?_ ?_ | refine q_nsplit rfl rfl ?_ ?_) <;> intro _ <;> try (exfalso; omega)) | (refine l_st (k_call1 evs_auto H ca_Bm5 rfl ?_); clear H; intro _ _ H) | (refine l_st (k_callg1 evs_auto rfl rfl rfl H ca_Bm5 rfl ?_); clear H; intro _ _ H) | refine kq_call1 evs_auto H (fun _ H => ca_Bm5) rfl ?_ | refine kq_callg1 evs_auto rfl rfl rfl H (fun _ H => ca_Bm5) rfl ?_)
  · refine c_mix H [15] ?_
    clear H; intro w3 H
    (apply m_rd (i := 0) rfl (by decide +kernel) (by first | exact Below.refl _ _ | assumption); exact rd_go; rfl); (apply m_rd (i := 1) rfl (by decide +kernel) (by first | exact Below.refl _ _ | assumption); exact rd_go; rfl); (apply m_rd (i := 2) rfl (by decide +kernel) (by first | exact Below.refl _ _ | assumption); exact rd_go; rfl); (apply m_rd (i := 3) rfl (by decide +kernel) (by first | exact Below.refl _ _ | assumption); exact rd_go; rfl); (apply m_rd (i := 4) rfl (by decide +kernel) (by first | exact Below.refl _ _ | assumption); exact rd_go; rfl); (apply m_rd (i := 5) rfl (by decide +kernel) (by first | exact Below.refl _ _ | assumption); exact rd_go; rfl); (apply m_rd (i := 6) rfl (by decide +kernel) (by first | exact Below.refl _ _ | assumption); exact rd_go; rfl); (apply m_rd (i := 7) rfl (by decide +kernel) (by first | exact Below.refl _ _ | assumption); exact rd_go; rfl); (apply m_rd (i := 8) rfl (by decide +kernel) (by first | exact Below.refl _ _ | assumption); exact rd_go; rfl); (apply m_rd (i := 9) rfl (by decide +kernel) (by first | exact Below.refl _ _ | assumption); exact rd_go; rfl); (apply m_rd (i := 10) rfl (by decide +kernel) (by first | exact Below.refl _ _ | assumption); exact rd_go; rfl); (apply m_rd (i := 11) rfl (by decide +kernel) (by first | exact Below.refl _ _ | assumption); exact rd_go; rfl); (apply m_rd (i := 12) rfl (by decide +kernel) (by first | exact Below.refl _ _ | assumption); exact rd_go; rfl)
    refine m_one (i := 13) (by kernel_rfl) rfl (k_callv0 evs_auto ⟨rfl, rfl⟩ H (or1_any _ _ _ (u64_at hr) (u64_at hr')) rfl ?_)
    rintro _ w5 rfl hbl H5
    refine ⟨fun _ => hbl, ?_⟩
    (apply m_rd (i := 14) rfl (by decide +kernel) (by first | exact Below.refl _ _ | assumption); exact rd_go; rfl)
    refine m_one (i := 15) (by kernel_rfl) rfl (t_store_int (j := 0) H5 rfl ⟨rfl, rfl⟩ (by omega) ⟨rfl, rfl⟩ ?_)
    intro w6 H6
    refine ⟨fun h => (by cases h), m_end (by kernel_rfl) ?_⟩
    repeat' (first | (apply l_rd; exact rd_go; rfl) | (apply q_rd; exact rd_go; rfl) | refine stp ?_ | refine bk_o rfl ?_ | refine c_true ⟨rfl, rfl⟩ ?_ | refine c_false ⟨rfl, rfl⟩ ?_ | (apply l_rdg; rfl; rfl; rfl; exact rd_go; rfl) | refine l_skip rfl rfl rfl rfl ?_ | (apply q_rdg; rfl; rfl; rfl; exact rd_go; rfl) | refine q_skip rfl rfl rfl rfl ?_ | (refine q_end ?_; clear H; intro _ H) | ((first | refine l_st (z_box H ?_) | refine l_st (s_alloc H rfl ?_)); clear H; intro _ _ _ H) | (refine l_st (t_build0 H rfl ?_); clear H; intro _ _ _ _ H) | (refine l_st (z_sto H ?_); clear H; intro _ H) | ((first | refine c_cond ⟨rfl, rfl⟩ ?_ ?_ | refine c_ncond ⟨rfl, rfl⟩ ?_ ?_ | refine l_split rfl rfl ?_ ?_ | refine q_split rfl rfl ?_ ?_ | refine l_nsplit rfl rfl ?_ ?_ | refine q_nsplit rfl rfl ?_ ?_) <;> intro _ <;> try (exfalso; omega)) | (refine l_st (k_call1 evs_auto H ca_Bm5 rfl ?_); clear H; intro _ _ H) | (refine l_st (k_callg1 evs_auto rfl rfl rfl H ca_Bm5 rfl ?_); clear H; intro _ _ H) | refine kq_call1 evs_auto H (fun _ H => ca_Bm5) rfl ?_ | refine kq_callg1 evs_auto rfl rfl rfl H (fun _ H => ca_Bm5) rfl ?_)
    have hi1 : i < a.words.length := by omega
    have hi2 : i < b.words.length := by omega
    obtain ⟨s1, _⟩ := step_bits (ws := cur) (x := ((a.words[i].toNat ||| b.words[i].toNat : Nat) : Int)) (by omega : i < cur.length) hb1 (fun _ _ => rfl) (or_step hi1 hi2)
    exact lk_n rfl (n' := a.words.length - (i + 1)) (by omega) ⟨i + 1, _, rfl, by omega, rfl, by rw [List.length_set]; exact hcl, set_rng hcr (or_lt (u64_at hr) (u64_at hr')), s1, H6⟩
  · refine retct (i := 0) H rfl rfl rfl rfl rfl rfl rfl ?_
    refine bm_ret (j := 0) (ws := cur) H (by rw [hcl]; rfl) hcr ?_
    unfold orBm
    rw [if_neg h, if_neg h', if_neg hsz, words_ext hcl hcr (fun j hj => hb1 j (by omega))]
/-- bitmap.Or. -/
theorem or_any (M : Nat → Prop) (a b : Bm) (A B : Option Addr) (c d : Nat) (w : World) (hs : rng .i64 a.size) (hs' : rng .i64 b.size) (hF : Stab w M (Row (kInt .u64) 1 A a.words)) (hF' : Stab w M (Row (kInt .u64) 1 B b.words)) :
    Ret Tryd.prog 82 [.agg [.int .i64 a.size, .slice A a.words.length c].toArray, .agg [.int .i64 b.size, .slice B b.words.length d].toArray] w (BmRet M w (orBm a b)) := by
  refine enter (M := M) (F := [Row (kInt .u64) 1 A a.words, Row (kInt .u64) 1 B b.words]) Tryd.func82 rfl rfl rfl (by simpa using ⟨hF, hF'⟩) fun H => ?_
  repeat' (first | (apply l_rd; exact rd_go; rfl) | (apply q_rd; exact rd_go; rfl) | refine stp ?_ | refine bk_o rfl ?_ | refine c_true ⟨rfl, rfl⟩ ?_ | refine c_false ⟨rfl, rfl⟩ ?_ | (apply l_rdg; rfl; rfl; rfl; exact rd_go; rfl) | refine l_skip rfl rfl rfl rfl ?_ | (apply q_rdg; rfl; rfl; rfl; exact rd_go; rfl) | refine q_skip rfl rfl rfl rfl ?_ | refine c_draw H (by kernel_rfl) ?_ | (refine q_end ?_; clear H; intro _ H) | ((first | refine l_st (z_box H ?_) | refine l_st (s_alloc H rfl ?_)); clear H; intro _ _ _ H) | (refine l_st (t_build0 H rfl ?_); clear H; intro _ _ _ _ H) | (refine l_st (z_sto H ?_); clear H; intro _ H) | ((first | refine c_cond ⟨rfl, rfl⟩ ?_ ?_ | refine c_ncond ⟨rfl, rfl⟩ ?_ ?_ | refine l_split rfl rfl ?_ ?_ | refine q_split rfl rfl ?_ ?_ | refine l_nsplit rfl rfl ?_ ?_ | refine q_nsplit rfl rfl ?_ ?_) <;> intro _ <;> try (exfalso; omega)) | (refine l_st (k_call1 evs_auto H ca_Bm5 rfl ?_); clear H; intro _ _ H) | (refine l_st (k_callg1 evs_auto rfl rfl rfl H ca_Bm5 rfl ?_); clear H; intro _ _ H) | refine kq_call1 evs_auto H (fun _ H => ca_Bm5) rfl ?_ | refine kq_callg1 evs_auto rfl rfl rfl H (fun _ H => ca_Bm5) rfl ?_)
  refine l_st (k_call evs_auto H (both_any _ a b A B c d _ hs hs' (H.fact _ mem_auto) (H.fact _ mem_auto)) rfl ?_)
  rintro _ w1 ⟨vs, rfl, hf⟩ hb H1
  obtain ⟨A1, c1, cs, rfl, _, _, H⟩ := H.take' hb hf
  repeat' (first | (apply l_rd; exact rd_go; rfl) | (apply q_rd; exact rd_go; rfl) | refine stp ?_ | refine bk_o rfl ?_ | refine c_true ⟨rfl, rfl⟩ ?_ | refine c_false ⟨rfl, rfl⟩ ?_ | (apply l_rdg; rfl; rfl; rfl; exact rd_go; rfl) | refine l_skip rfl rfl rfl rfl ?_ | (apply q_rdg; rfl; rfl; rfl; exact rd_go; rfl) | refine q_skip rfl rfl rfl rfl ?_ | refine c_draw H (by kernel_rfl) ?_ | (refine q_end ?_; clear H; intro _ H) | ((first | refine l_st (z_box H ?_) | refine l_st (s_alloc H rfl ?_)); clear H; intro _ _ _ H) | (refine l_st (t_build0 H rfl ?_); clear H; intro _ _ _ _ H) | (refine l_st (z_sto H ?_); clear H; intro _ H) | ((first | refine c_cond ⟨rfl, rfl⟩ ?_ ?_ | refine c_ncond ⟨rfl, rfl⟩ ?_ ?_ | refine l_split rfl rfl ?_ ?_ | refine q_split rfl rfl ?_ ?_ | refine l_nsplit rfl rfl ?_ ?_ | refine q_nsplit rfl rfl ?_ ?_) <;> intro _ <;> try (exfalso; omega)) | (refine l_st (k_call1 evs_auto H ca_Bm5 rfl ?_); clear H; intro _ _ H) | (refine l_st (k_callg1 evs_auto rfl rfl rfl H ca_Bm5 rfl ?_); clear H; intro _ _ H) | refine kq_call1 evs_auto H (fun _ H => ca_Bm5) rfl ?_ | refine kq_callg1 evs_auto rfl rfl rfl H (fun _ H => ca_Bm5) rfl ?_)
  exact retct (i := 0) H rfl rfl rfl rfl rfl rfl rfl ⟨_, rfl, H.fresh (j := 0) rfl (List.mem_cons_self ..) rfl⟩
/-- The reference's both. -/
theorem rboth_any (M : Nat → Prop) (a b : Bm) (A B : Option Addr) (c d : Nat) (w : World) (hs : rng .i64 a.size) (hs' : rng .i64 b.size) (hF : Stab w M (Row (kInt .u64) 1 A a.words)) (hF' : Stab w M (Row (kInt .u64) 1 B b.words)) :
    Ret Tryd.prog 128 [.agg [.int .i64 a.size, .slice A a.words.length c].toArray, .agg [.int .i64 b.size, .slice B b.words.length d].toArray] w fun v _ => v = .int .i64 (if a.err ≠ 0 then 3 else if b.err ≠ 0 then 3 else if a.size ≠ b.size then 22 else 0) := by
  refine enter (M := M) (F := [Row (kInt .u64) 1 A a.words, Row (kInt .u64) 1 B b.words]) Tryd.func128 rfl rfl rfl (by simpa using ⟨hF, hF'⟩) fun H => ?_
  repeat' (first | (apply l_rd; exact rd_go; rfl) | (apply q_rd; exact rd_go; rfl) | refine stp ?_ | refine bk_o rfl ?_ | refine c_true ⟨rfl, rfl⟩ ?_ | refine c_false ⟨rfl, rfl⟩ ?_ | (apply l_rdg; rfl; rfl; rfl; exact rd_go; rfl) | refine l_skip rfl rfl rfl rfl ?_ | (apply q_rdg; rfl; rfl; rfl; exact rd_go; rfl) | refine q_skip rfl rfl rfl rfl ?_ | refine c_draw H (by kernel_rfl) ?_ | (refine q_end ?_; clear H; intro _ H) | ((first | refine l_st (z_box H ?_) | refine l_st (s_alloc H rfl ?_)); clear H; intro _ _ _ H) | (refine l_st (t_build0 H rfl ?_); clear H; intro _ _ _ _ H) | (refine l_st (z_sto H ?_); clear H; intro _ H) | ((first | refine c_cond ⟨rfl, rfl⟩ ?_ ?_ | refine c_ncond ⟨rfl, rfl⟩ ?_ ?_ | refine l_split rfl rfl ?_ ?_ | refine q_split rfl rfl ?_ ?_ | refine l_nsplit rfl rfl ?_ ?_ | refine q_nsplit rfl rfl ?_ ?_) <;> intro _ <;> try (exfalso; omega)) | (refine l_st (k_call1 evs_auto H ca_Bm5 rfl ?_); clear H; intro _ _ H) | (refine l_st (k_callg1 evs_auto rfl rfl rfl H ca_Bm5 rfl ?_); clear H; intro _ _ H) | refine kq_call1 evs_auto H (fun _ H => ca_Bm5) rfl ?_ | refine kq_callg1 evs_auto rfl rfl rfl H (fun _ H => ca_Bm5) rfl ?_)
  all_goals (refine ret1 H rfl rfl rfl ?_; refine iv ?_; repeat' split) <;> first | rfl | omega | contradiction
end Go.Proofs.YtiolpldihoghiaaDoor

namespace Go.Proofs.YtiolpldihoghiaaDoor
open Go.RowKit
set_option linter.unusedVariables false
set_option linter.unusedSimpArgs false
set_option maxHeartbeats 4000000
theorem ca_Bm6 {k : FuncId} {vs : List Value} {w1 : World} {v : Value} (h : Ret Tryd.prog k vs w1 (fun u _ => u = v) := by first | exact rboth_any _ _ _ _ _ _ _ _ (by assumption) (by assumption) (H.fact _ mem_auto) (H.fact _ mem_auto) | exact rCheck_any _ _ _ _ _ (by assumption) (H.fact _ mem_auto) | exact rFits_any _ _ _ _ (by assumption) (by assumption) (by omega)) : Ret Tryd.prog k vs w1 (fun u _ => u = v) := h
theorem rOr_any (M : Nat → Prop) (a b : Bm) (A B : Option Addr) (c d : Nat) (w : World) (hs : rng .i64 a.size) (hs' : rng .i64 b.size) (hF : Stab w M (Row (kInt .u64) 1 A a.words)) (hF' : Stab w M (Row (kInt .u64) 1 B b.words)) :
    Ret Tryd.prog 87 [.agg [.int .i64 a.size, .slice A a.words.length c].toArray, .agg [.int .i64 b.size, .slice B b.words.length d].toArray] w (BmRet M w (orBm a b)) := by
  have hr := rng_row hF
  have hr' := rng_row hF'
  refine enter (M := M) (F := [Row (kInt .u64) 1 A a.words, Row (kInt .u64) 1 B b.words]) Tryd.func87 rfl rfl rfl (by simpa using ⟨hF, hF'⟩) fun H => ?_
  repeat' (first | (apply l_rd; exact rd_go; rfl) | (apply q_rd; exact rd_go; rfl) | refine stp ?_ | refine bk_o rfl ?_ | refine c_true ⟨rfl, rfl⟩ ?_ | refine c_false ⟨rfl, rfl⟩ ?_ | (apply l_rdg; rfl; rfl; rfl; exact rd_go; rfl) | refine l_skip rfl rfl rfl rfl ?_ | (apply q_rdg; rfl; rfl; rfl; exact rd_go; rfl) | refine q_skip rfl rfl rfl rfl ?_ | (refine q_end ?_; clear H; intro _ H) | ((first | refine l_st (z_box H ?_) | refine l_st (s_alloc H rfl ?_)); clear H; intro _ _ _ H) | (refine l_st (t_build0 H rfl ?_); clear H; intro _ _ _ _ H) | (refine l_st (z_sto H ?_); clear H; intro _ H) | ((first | refine c_cond ⟨rfl, rfl⟩ ?_ ?_ | refine c_ncond ⟨rfl, rfl⟩ ?_ ?_ | refine l_split rfl rfl ?_ ?_ | refine q_split rfl rfl ?_ ?_ | refine l_nsplit rfl rfl ?_ ?_ | refine q_nsplit rfl rfl ?_ ?_) <;> intro _ <;> try (exfalso; omega)) | (refine l_st (k_call1 evs_auto H ca_Bm6 rfl ?_); clear H; intro _ _ H) | (refine l_st (k_callg1 evs_auto rfl rfl rfl H ca_Bm6 rfl ?_); clear H; intro _ _ H) | refine kq_call1 evs_auto H (fun _ H => ca_Bm6) rfl ?_ | refine kq_callg1 evs_auto rfl rfl rfl H (fun _ H => ca_Bm6) rfl ?_)
  · have h : (if a.err ≠ 0 then 3 else if b.err ≠ 0 then 3 else if a.size ≠ b.size then 22 else (0 : Int)) ≠ 0 := by assumption
    refine retct (i := 0) H rfl rfl rfl rfl rfl rfl rfl (bm_ret0 H ?_)
    unfold orBm
    (repeat' split at *) <;> first | rfl | omega | contradiction
  have h0 : ¬ (if a.err ≠ 0 then 3 else if b.err ≠ 0 then 3 else if a.size ≠ b.size then 22 else (0 : Int)) ≠ 0 := by assumption
  have h : ¬ a.err ≠ 0 := fun e => h0 (by rw [if_pos e]; omega)
  have h' : ¬ b.err ≠ 0 := fun e => h0 (by rw [if_neg h, if_pos e]; omega)
  have hsz : ¬ a.size ≠ b.size := fun e => h0 (by rw [if_neg h, if_neg h', if_pos e]; omega)
  obtain ⟨h3, h4, h5⟩ := Bm.fine_len (b := a) (by omega)
  obtain ⟨k3, k4, k5⟩ := Bm.fine_len (b := b) (by omega)
  have hlen : a.words.length = b.words.length := by omega
  refine l_st (k_call evs_auto H (rCopy_any _ a _ _ _ (by omega) (H.fact _ mem_auto)) rfl ?_)
  rintro _ w1 ⟨vs, rfl, hf⟩ hb H1
  obtain ⟨A1, c1, cs, rfl, _, _, H2⟩ := H.take' hb hf
  clear H H1 hf hb
  obtain rfl := chunks_int (H2.fact _ (List.mem_cons_self ..)).now
  have H := H2
  clear H2
  repeat' (first | (apply l_rd; exact rd_go; rfl) | (apply q_rd; exact rd_go; rfl) | refine stp ?_ | refine bk_o rfl ?_ | refine c_true ⟨rfl, rfl⟩ ?_ | refine c_false ⟨rfl, rfl⟩ ?_ | (apply l_rdg; rfl; rfl; rfl; exact rd_go; rfl) | refine l_skip rfl rfl rfl rfl ?_ | (apply q_rdg; rfl; rfl; rfl; exact rd_go; rfl) | refine q_skip rfl rfl rfl rfl ?_ | (refine q_end ?_; clear H; intro _ H) | ((first | refine l_st (z_box H ?_) | refine l_st (s_alloc H rfl ?_)); clear H; intro _ _ _ H) | (refine l_st (t_build0 H rfl ?_); clear H; intro _ _ _ _ H) | (refine l_st (z_sto H ?_); clear H; intro _ H) | ((first | refine c_cond ⟨rfl, rfl⟩ ?_ ?_ | refine c_ncond ⟨rfl, rfl⟩ ?_ ?_ | refine l_split rfl rfl ?_ ?_ | refine q_split rfl rfl ?_ ?_ | refine l_nsplit rfl rfl ?_ ?_ | refine q_nsplit rfl rfl ?_ ?_) <;> intro _ <;> try (exfalso; omega)) | (refine l_st (k_call1 evs_auto H ca_Bm6 rfl ?_); clear H; intro _ _ H) | (refine l_st (k_callg1 evs_auto rfl rfl rfl H ca_Bm6 rfl ?_); clear H; intro _ _ H) | refine kq_call1 evs_auto H (fun _ H => ca_Bm6) rfl ?_ | refine kq_callg1 evs_auto rfl rfl rfl H (fun _ H => ca_Bm6) rfl ?_)
  refine c_loopk [8] [2, 3, 4, 7] (fun n vs w' => ∃ (i : Nat) (cur : List Int), vs = [.int .i64 i] ∧ i ≤ a.words.length ∧ n = a.words.length - i ∧ cur.length = a.words.length ∧ (∀ x ∈ cur, rng .u64 x) ∧
      (∀ j, j < 64 * i → bitOf cur j = (bitOf a.words j || bitOf b.words j)) ∧ Hp w M w' _ [⟨.slice A1 a.words.length c1, 151, 1, a.words.length, cur.map (Value.int .u64)⟩] _) _ [_, _, _, _] rfl
      ⟨0, a.words, rfl, Nat.zero_le _, rfl, rfl, hr, fun j h => by omega, H⟩ ?_
  clear H
  rintro n _ E0 w2 ⟨i, cur, rfl, hi, rfl, hcl, hcr, hb1, H⟩
  repeat' (first | (apply l_rd; exact rd_go; rfl) | (apply q_rd; exact rd_go; rfl) | refine stp ?_ | refine bk_o rfl ?_ | refine c_true ⟨rfl, rfl⟩ ?_ | refine c_false ⟨rfl, rfl⟩ ?_ | (apply l_rdg; rfl; rfl; rfl; exact rd_go; rfl) | refine l_skip rfl rfl rfl rfl ?_ | (apply q_rdg; rfl; rfl; rfl; exact rd_go; rfl) | refine q_skip rfl rfl rfl rfl ?_ | (refine q_end ?_; clear H; intro _ H) | ((first | refine l_st (z_box H ?_) | refine l_st (s_alloc H rfl ?_)); clear H; intro _ _ _ H) | (refine l_st (t_build0 H rfl ?_); clear H; intro _ _ _ _ H) | (refine l_st (z_sto H ?_); clear H; intro _ H) | ((first | refine c_cond ⟨rfl, rfl⟩ ?_ ?_ | refine c_ncond ⟨rfl, rfl⟩ ?_ ?_ | refine l_split rfl rfl ?_ ?_ | refine q_split rfl rfl ?_ ?_ | refine l_nsplit rfl rfl ?_ ?_ | refine q_nsplit rfl rfl ?_ ?_) <;> intro _ <;> try (exfalso; omega)) | (refine l_st (k_call1 evs_auto H ca_Bm6 rfl ?_); clear H; intro _ _ H) | (refine l_st (k_callg1 evs_auto rfl rfl rfl H ca_Bm6 rfl ?_); clear H; intro _ _ H) | refine kq_call1 evs_auto H (fun _ H => ca_Bm6) rfl ?_ | refine kq_callg1 evs_auto rfl rfl rfl H (fun _ H => ca_Bm6) rfl ?_)
  · refine c_mix H [15] ?_
    clear H; intro w3 H
    (apply m_rd (i := 0) rfl (by decide +kernel) (by first | exact Below.refl _ _ | assumption); exact rd_go; rfl); (apply m_rd (i := 1) rfl (by decide +kernel) (by first | exact Below.refl _ _ | assumption); exact rd_go; rfl); (apply m_rd (i := 2) rfl (by decide +kernel) (by first | exact Below.refl _ _ | assumption); exact rd_go; rfl); (apply m_rd (i := 3) rfl (by decide +kernel) (by first | exact Below.refl _ _ | assumption); exact rd_go; rfl); (apply m_rd (i := 4) rfl (by decide +kernel) (by first | exact Below.refl _ _ | assumption); exact rd_go; rfl); (apply m_rd (i := 5) rfl (by decide +kernel) (by first | exact Below.refl _ _ | assumption); exact rd_go; rfl); (apply m_rd (i := 6) rfl (by decide +kernel) (by first | exact Below.refl _ _ | assumption); exact rd_go; rfl); (apply m_rd (i := 7) rfl (by decide +kernel) (by first | exact Below.refl _ _ | assumption); exact rd_go; rfl); (apply m_rd (i := 8) rfl (by decide +kernel) (by first | exact Below.refl _ _ | assumption); exact rd_go; rfl); (apply m_rd (i := 9) rfl (by decide +kernel) (by first | exact Below.refl _ _ | assumption); exact rd_go; rfl); (apply m_rd (i := 10) rfl (by decide +kernel) (by first | exact Below.refl _ _ | assumption); exact rd_go; rfl); (apply m_rd (i := 11) rfl (by decide +kernel) (by first | exact Below.refl _ _ | assumption); exact rd_go; rfl); (apply m_rd (i := 12) rfl (by decide +kernel) (by first | exact Below.refl _ _ | assumption); exact rd_go; rfl); (apply m_rd (i := 13) rfl (by decide +kernel) (by first | exact Below.refl _ _ | assumption); exact rd_go; rfl); (apply m_rd (i := 14) rfl (by decide +kernel) (by first | exact Below.refl _ _ | assumption); exact rd_go; rfl)
    refine m_one (i := 15) (by kernel_rfl) rfl (t_store_int (j := 0) H rfl ⟨rfl, rfl⟩ (by omega) ⟨rfl, rfl⟩ ?_)
    intro w6 H6
    refine ⟨fun h => (by cases h), m_end (by kernel_rfl) ?_⟩
    repeat' (first | (apply l_rd; exact rd_go; rfl) | (apply q_rd; exact rd_go; rfl) | refine stp ?_ | refine bk_o rfl ?_ | refine c_true ⟨rfl, rfl⟩ ?_ | refine c_false ⟨rfl, rfl⟩ ?_ | (apply l_rdg; rfl; rfl; rfl; exact rd_go; rfl) | refine l_skip rfl rfl rfl rfl ?_ | (apply q_rdg; rfl; rfl; rfl; exact rd_go; rfl) | refine q_skip rfl rfl rfl rfl ?_ | (refine q_end ?_; clear H; intro _ H) | ((first | refine l_st (z_box H ?_) | refine l_st (s_alloc H rfl ?_)); clear H; intro _ _ _ H) | (refine l_st (t_build0 H rfl ?_); clear H; intro _ _ _ _ H) | (refine l_st (z_sto H ?_); clear H; intro _ H) | ((first | refine c_cond ⟨rfl, rfl⟩ ?_ ?_ | refine c_ncond ⟨rfl, rfl⟩ ?_ ?_ | refine l_split rfl rfl ?_ ?_ | refine q_split rfl rfl ?_ ?_ | refine l_nsplit rfl rfl ?_ ?_ | refine q_nsplit rfl rfl ?_ ?_) <;> intro _ <;> try (exfalso; omega)) | (refine l_st (k_call1 evs_auto H ca_Bm6 rfl ?_); clear H; intro _ _ H) | (refine l_st (k_callg1 evs_auto rfl rfl rfl H ca_Bm6 rfl ?_); clear H; intro _ _ H) | refine kq_call1 evs_auto H (fun _ H => ca_Bm6) rfl ?_ | refine kq_callg1 evs_auto rfl rfl rfl H (fun _ H => ca_Bm6) rfl ?_)
    have hi1 : i < a.words.length := by omega
    have hi2 : i < b.words.length := by omega
    obtain ⟨s1, _⟩ := step_bits (ws := cur) (x := ((a.words[i].toNat ||| b.words[i].toNat : Nat) : Int)) (by omega : i < cur.length) hb1 (fun _ _ => rfl) (or_step hi1 hi2)
    exact lk_n rfl (n' := a.words.length - (i + 1)) (by omega) ⟨i + 1, _, rfl, by omega, rfl, by rw [List.length_set]; exact hcl, set_rng hcr (or_lt (u64_at hr) (u64_at hr')), s1, H6⟩
  · refine retct (i := 1) H rfl rfl rfl rfl rfl rfl rfl ?_
    refine bm_ret (j := 0) (ws := cur) H (by rw [hcl]; rfl) hcr ?_
    unfold orBm
    rw [if_neg h, if_neg h', if_neg hsz, words_ext hcl hcr (fun j hj => hb1 j (by omega))]
theorem rchange_any (M : Nat → Prop) (b : Bm) (A : Option Addr) (c : Nat) (e : Ext) (w : World) (hs : rng .i64 b.size) (h1 : rng .i64 e.start) (h2 : rng .i64 e.count) (hF : Stab w M (Row (kInt .u64) 1 A b.words)) :
    Ret Tryd.prog 114 [.agg [.int .i64 b.size, .slice A b.words.length c].toArray, .agg [.int .i64 e.start, .int .i64 e.count].toArray, .bool true] w (BmRet M w (setBm b e)) := by
  have hr := rng_row hF
  refine enter (M := M) (F := [Row (kInt .u64) 1 A b.words]) Tryd.func114 rfl rfl rfl (by simpa using hF) fun H => ?_
  repeat' (first | (apply l_rd; exact rd_go; rfl) | (apply q_rd; exact rd_go; rfl) | refine stp ?_ | refine bk_o rfl ?_ | refine c_true ⟨rfl, rfl⟩ ?_ | refine c_false ⟨rfl, rfl⟩ ?_ | (apply l_rdg; rfl; rfl; rfl; exact rd_go; rfl) | refine l_skip rfl rfl rfl rfl ?_ | (apply q_rdg; rfl; rfl; rfl; exact rd_go; rfl) | refine q_skip rfl rfl rfl rfl ?_ | (refine q_end ?_; clear H; intro _ H) | ((first | refine l_st (z_box H ?_) | refine l_st (s_alloc H rfl ?_)); clear H; intro _ _ _ H) | (refine l_st (t_build0 H rfl ?_); clear H; intro _ _ _ _ H) | (refine l_st (z_sto H ?_); clear H; intro _ H) | ((first | refine c_cond ⟨rfl, rfl⟩ ?_ ?_ | refine c_ncond ⟨rfl, rfl⟩ ?_ ?_ | refine l_split rfl rfl ?_ ?_ | refine q_split rfl rfl ?_ ?_ | refine l_nsplit rfl rfl ?_ ?_ | refine q_nsplit rfl rfl ?_ ?_) <;> intro _ <;> try (exfalso; omega)) | (refine l_st (k_call1 evs_auto H ca_Bm6 rfl ?_); clear H; intro _ _ H) | (refine l_st (k_callg1 evs_auto rfl rfl rfl H ca_Bm6 rfl ?_); clear H; intro _ _ H) | refine kq_call1 evs_auto H (fun _ H => ca_Bm6) rfl ?_ | refine kq_callg1 evs_auto rfl rfl rfl H (fun _ H => ca_Bm6) rfl ?_)
  · have h : b.err ≠ 0 := by assumption
    refine retct (i := 0) H rfl rfl rfl rfl rfl rfl rfl (bm_ret0 H ?_); unfold setBm; rw [if_pos h]
  have h : ¬ b.err ≠ 0 := by assumption
  obtain ⟨h3, h4, h5⟩ := Bm.fine_len (b := b) (by omega)
  repeat' (first | (apply l_rd; exact rd_go; rfl) | (apply q_rd; exact rd_go; rfl) | refine stp ?_ | refine bk_o rfl ?_ | refine c_true ⟨rfl, rfl⟩ ?_ | refine c_false ⟨rfl, rfl⟩ ?_ | (apply l_rdg; rfl; rfl; rfl; exact rd_go; rfl) | refine l_skip rfl rfl rfl rfl ?_ | (apply q_rdg; rfl; rfl; rfl; exact rd_go; rfl) | refine q_skip rfl rfl rfl rfl ?_ | (refine q_end ?_; clear H; intro _ H) | ((first | refine l_st (z_box H ?_) | refine l_st (s_alloc H rfl ?_)); clear H; intro _ _ _ H) | (refine l_st (t_build0 H rfl ?_); clear H; intro _ _ _ _ H) | (refine l_st (z_sto H ?_); clear H; intro _ H) | ((first | refine c_cond ⟨rfl, rfl⟩ ?_ ?_ | refine c_ncond ⟨rfl, rfl⟩ ?_ ?_ | refine l_split rfl rfl ?_ ?_ | refine q_split rfl rfl ?_ ?_ | refine l_nsplit rfl rfl ?_ ?_ | refine q_nsplit rfl rfl ?_ ?_) <;> intro _ <;> try (exfalso; omega)) | (refine l_st (k_call1 evs_auto H ca_Bm6 rfl ?_); clear H; intro _ _ H) | (refine l_st (k_callg1 evs_auto rfl rfl rfl H ca_Bm6 rfl ?_); clear H; intro _ _ H) | refine kq_call1 evs_auto H (fun _ H => ca_Bm6) rfl ?_ | refine kq_callg1 evs_auto rfl rfl rfl H (fun _ H => ca_Bm6) rfl ?_)
  · have h' : ¬ (0 ≤ e.start ∧ 0 ≤ e.count ∧ e.start ≤ b.size ∧ e.count ≤ b.size - e.start) := by assumption
    refine retct (i := 0) H rfl rfl rfl rfl rfl rfl rfl (bm_ret0 H ?_); unfold setBm; rw [if_neg h]; exact if_pos h'
  have hf : e.fits b.size := by assumption
  obtain ⟨f1, f2, f3, f4⟩ := id hf
  refine l_st (k_call evs_auto H (rCopy_any _ b _ _ _ (by omega) (H.fact _ mem_auto)) rfl ?_)
  rintro _ w1 ⟨vs, rfl, hfr⟩ hb H1
  obtain ⟨A1, c1, cs, rfl, _, _, H2⟩ := H.take' hb hfr
  clear H H1 hfr hb
  obtain rfl := chunks_int (H2.fact _ (List.mem_cons_self ..)).now
  have H := H2
  clear H2
  repeat' (first | (apply l_rd; exact rd_go; rfl) | (apply q_rd; exact rd_go; rfl) | refine stp ?_ | refine bk_o rfl ?_ | refine c_true ⟨rfl, rfl⟩ ?_ | refine c_false ⟨rfl, rfl⟩ ?_ | (apply l_rdg; rfl; rfl; rfl; exact rd_go; rfl) | refine l_skip rfl rfl rfl rfl ?_ | (apply q_rdg; rfl; rfl; rfl; exact rd_go; rfl) | refine q_skip rfl rfl rfl rfl ?_ | (refine q_end ?_; clear H; intro _ H) | ((first | refine l_st (z_box H ?_) | refine l_st (s_alloc H rfl ?_)); clear H; intro _ _ _ H) | (refine l_st (t_build0 H rfl ?_); clear H; intro _ _ _ _ H) | (refine l_st (z_sto H ?_); clear H; intro _ H) | ((first | refine c_cond ⟨rfl, rfl⟩ ?_ ?_ | refine c_ncond ⟨rfl, rfl⟩ ?_ ?_ | refine l_split rfl rfl ?_ ?_ | refine q_split rfl rfl ?_ ?_ | refine l_nsplit rfl rfl ?_ ?_ | refine q_nsplit rfl rfl ?_ ?_) <;> intro _ <;> try (exfalso; omega)) | (refine l_st (k_call1 evs_auto H ca_Bm6 rfl ?_); clear H; intro _ _ H) | (refine l_st (k_callg1 evs_auto rfl rfl rfl H ca_Bm6 rfl ?_); clear H; intro _ _ H) | refine kq_call1 evs_auto H (fun _ H => ca_Bm6) rfl ?_ | refine kq_callg1 evs_auto rfl rfl rfl H (fun _ H => ca_Bm6) rfl ?_)
  refine c_loopk [9] [2, 3, 4, 6, 8] (fun n vs w' => ∃ (i : Int) (cur : List Int), vs = [.int .i64 i] ∧ e.start ≤ i ∧ i ≤ e.start + e.count ∧ n = (e.start + e.count - i).toNat ∧ cur.length = b.words.length ∧ (∀ x ∈ cur, rng .u64 x) ∧
      (∀ j : Nat, bitOf cur j = (bitOf b.words j || inExt ⟨e.start, i - e.start⟩ j)) ∧ Hp w M w' _ [⟨.slice A1 b.words.length c1, 151, 1, b.words.length, cur.map (Value.int .u64)⟩] _) _ [_, _, _, _, _] rfl
      ⟨e.start, b.words, rfl, by omega, by omega, rfl, rfl, hr, fun j => by simp [inExt]; omega, H⟩ ?_
  clear H
  rintro n _ E0 w2 ⟨i, cur, rfl, hi, hi2, rfl, hcl, hcr, hb1, H⟩
  repeat' (first | (apply l_rd; exact rd_go; rfl) | (apply q_rd; exact rd_go; rfl) | refine stp ?_ | refine bk_o rfl ?_ | refine c_true ⟨rfl, rfl⟩ ?_ | refine c_false ⟨rfl, rfl⟩ ?_ | (apply l_rdg; rfl; rfl; rfl; exact rd_go; rfl) | refine l_skip rfl rfl rfl rfl ?_ | (apply q_rdg; rfl; rfl; rfl; exact rd_go; rfl) | refine q_skip rfl rfl rfl rfl ?_ | (refine q_end ?_; clear H; intro _ H) | ((first | refine l_st (z_box H ?_) | refine l_st (s_alloc H rfl ?_)); clear H; intro _ _ _ H) | (refine l_st (t_build0 H rfl ?_); clear H; intro _ _ _ _ H) | (refine l_st (z_sto H ?_); clear H; intro _ H) | ((first | refine c_cond ⟨rfl, rfl⟩ ?_ ?_ | refine c_ncond ⟨rfl, rfl⟩ ?_ ?_ | refine l_split rfl rfl ?_ ?_ | refine q_split rfl rfl ?_ ?_ | refine l_nsplit rfl rfl ?_ ?_ | refine q_nsplit rfl rfl ?_ ?_) <;> intro _ <;> try (exfalso; omega)) | (refine l_st (k_call1 evs_auto H ca_Bm6 rfl ?_); clear H; intro _ _ H) | (refine l_st (k_callg1 evs_auto rfl rfl rfl H ca_Bm6 rfl ?_); clear H; intro _ _ H) | refine kq_call1 evs_auto H (fun _ H => ca_Bm6) rfl ?_ | refine kq_callg1 evs_auto rfl rfl rfl H (fun _ H => ca_Bm6) rfl ?_)
  · refine c_mix H [16] ?_
    clear H; intro w3 H
    (apply m_rd (i := 0) rfl (by decide +kernel) (by first | exact Below.refl _ _ | assumption); exact rd_go; rfl); (apply m_rd (i := 1) rfl (by decide +kernel) (by first | exact Below.refl _ _ | assumption); exact rd_go; rfl); (apply m_rd (i := 2) rfl (by decide +kernel) (by first | exact Below.refl _ _ | assumption); exact rd_go; rfl); (apply m_rd (i := 3) rfl (by decide +kernel) (by first | exact Below.refl _ _ | assumption); exact rd_go; rfl); (apply m_rd (i := 4) rfl (by decide +kernel) (by first | exact Below.refl _ _ | assumption); exact rd_go; rfl); (apply m_rd (i := 5) rfl (by decide +kernel) (by first | exact Below.refl _ _ | assumption); exact rd_go; rfl); (apply m_rd (i := 6) rfl (by decide +kernel) (by first | exact Below.refl _ _ | assumption); exact rd_go; rfl); (apply m_rd (i := 7) rfl (by decide +kernel) (by first | exact Below.refl _ _ | assumption); exact rd_go; rfl); (apply m_rd (i := 8) rfl (by decide +kernel) (by first | exact Below.refl _ _ | assumption); exact rd_go; rfl); (apply m_rd (i := 9) rfl (by decide +kernel) (by first | exact Below.refl _ _ | assumption); exact rd_go; rfl); (apply m_rd (i := 10) rfl (by decide +kernel) (by first | exact Below.refl _ _ | assumption); exact rd_go; rfl); (apply m_rd (i := 11) rfl (by decide +kernel) (by first | exact Below.refl _ _ | assumption); exact rd_go; rfl); (apply m_rd (i := 12) rfl (by decide +kernel) (by first | exact Below.refl _ _ | assumption); exact rd_go; rfl); (apply m_rd (i := 13) rfl (by decide +kernel) (by first | exact Below.refl _ _ | assumption); exact rd_go; rfl); (apply m_rd (i := 14) rfl (by decide +kernel) (by first | exact Below.refl _ _ | assumption); exact rd_go; rfl); (apply m_rd (i := 15) rfl (by decide +kernel) (by first | exact Below.refl _ _ | assumption); exact rd_go; rfl)
    refine m_one (i := 16) (by kernel_rfl) rfl (t_store_int (j := 0) H rfl ⟨rfl, rfl⟩ (by omega) ⟨rfl, rfl⟩ ?_)
    intro w6 H6
    refine ⟨fun h => (by cases h), m_end (by kernel_rfl) ?_⟩
    repeat' (first | (apply l_rd; exact rd_go; rfl) | (apply q_rd; exact rd_go; rfl) | refine stp ?_ | refine bk_o rfl ?_ | refine c_true ⟨rfl, rfl⟩ ?_ | refine c_false ⟨rfl, rfl⟩ ?_ | (apply l_rdg; rfl; rfl; rfl; exact rd_go; rfl) | refine l_skip rfl rfl rfl rfl ?_ | (apply q_rdg; rfl; rfl; rfl; exact rd_go; rfl) | refine q_skip rfl rfl rfl rfl ?_ | (refine q_end ?_; clear H; intro _ H) | ((first | refine l_st (z_box H ?_) | refine l_st (s_alloc H rfl ?_)); clear H; intro _ _ _ H) | (refine l_st (t_build0 H rfl ?_); clear H; intro _ _ _ _ H) | (refine l_st (z_sto H ?_); clear H; intro _ H) | ((first | refine c_cond ⟨rfl, rfl⟩ ?_ ?_ | refine c_ncond ⟨rfl, rfl⟩ ?_ ?_ | refine l_split rfl rfl ?_ ?_ | refine q_split rfl rfl ?_ ?_ | refine l_nsplit rfl rfl ?_ ?_ | refine q_nsplit rfl rfl ?_ ?_) <;> intro _ <;> try (exfalso; omega)) | (refine l_st (k_call1 evs_auto H ca_Bm6 rfl ?_); clear H; intro _ _ H) | (refine l_st (k_callg1 evs_auto rfl rfl rfl H ca_Bm6 rfl ?_); clear H; intro _ _ H) | refine kq_call1 evs_auto H (fun _ H => ca_Bm6) rfl ?_ | refine kq_callg1 evs_auto rfl rfl rfl H (fun _ H => ca_Bm6) rfl ?_)
    have hq : (i / 64).toNat < cur.length := by omega
    have s1 := set_one (x := ((cur[(i / 64).toNat].toNat ||| (((1 : Int).toNat <<< (i % 64).toNat % 18446744073709551616 : Nat) : Int).toNat : Nat) : Int)) hq (by omega : (i % 64).toNat < 64) (by rfl)
    refine lk_n rfl (n' := (e.start + e.count - (i + 1)).toNat) (by omega) ⟨i + 1, _, rfl, by omega, by omega, rfl, by rw [List.length_set]; exact hcl, set_rng hcr (or_lt (u64_at hcr) (by omega)), fun j => ?_, H6⟩
    rw [s1 j, hb1 j, Bool.or_assoc]
    congr 1
    rw [Bool.eq_iff_iff]; simp only [inExt, Bool.or_eq_true, decide_eq_true_iff]; omega
  · refine retct (i := 1) H rfl rfl rfl rfl rfl rfl rfl ?_
    refine bm_ret (j := 0) (ws := cur) H (by rw [hcl]; rfl) hcr ?_
    have hie : i = e.start + e.count := by omega
    unfold setBm
    rw [if_neg h, if_neg (fun h' => h' hf), words_ext hcl hcr (fun j hj => hb1 j), hie]
    simp only [show e.start + e.count - e.start = e.count from by omega]
/-- The reference's Set. -/
theorem rSet_any (M : Nat → Prop) (b : Bm) (A : Option Addr) (c : Nat) (e : Ext) (w : World) (hs : rng .i64 b.size) (h1 : rng .i64 e.start) (h2 : rng .i64 e.count) (hF : Stab w M (Row (kInt .u64) 1 A b.words)) :
    Ret Tryd.prog 66 [.agg [.int .i64 b.size, .slice A b.words.length c].toArray, .agg [.int .i64 e.start, .int .i64 e.count].toArray] w (BmRet M w (setBm b e)) := by
  refine enter (M := M) (F := [Row (kInt .u64) 1 A b.words]) Tryd.func66 rfl rfl rfl (by simpa using hF) fun H => ?_
  repeat' (first | (apply l_rd; exact rd_go; rfl) | (apply q_rd; exact rd_go; rfl) | refine stp ?_ | refine bk_o rfl ?_ | refine c_true ⟨rfl, rfl⟩ ?_ | refine c_false ⟨rfl, rfl⟩ ?_ | (apply l_rdg; rfl; rfl; rfl; exact rd_go; rfl) | refine l_skip rfl rfl rfl rfl ?_ | (apply q_rdg; rfl; rfl; rfl; exact rd_go; rfl) | refine q_skip rfl rfl rfl rfl ?_ | refine c_draw H (by kernel_rfl) ?_ | (refine q_end ?_; clear H; intro _ H) | ((first | refine l_st (z_box H ?_) | refine l_st (s_alloc H rfl ?_)); clear H; intro _ _ _ H) | (refine l_st (t_build0 H rfl ?_); clear H; intro _ _ _ _ H) | (refine l_st (z_sto H ?_); clear H; intro _ H) | ((first | refine c_cond ⟨rfl, rfl⟩ ?_ ?_ | refine c_ncond ⟨rfl, rfl⟩ ?_ ?_ | refine l_split rfl rfl ?_ ?_ | refine q_split rfl rfl ?_ ?_ | refine l_nsplit rfl rfl ?_ ?_ | refine q_nsplit rfl rfl ?_ ?_) <;> intro _ <;> try (exfalso; omega)) | (refine l_st (k_call1 evs_auto H ca_Bm6 rfl ?_); clear H; intro _ _ H) | (refine l_st (k_callg1 evs_auto rfl rfl rfl H ca_Bm6 rfl ?_); clear H; intro _ _ H) | refine kq_call1 evs_auto H (fun _ H => ca_Bm6) rfl ?_ | refine kq_callg1 evs_auto rfl rfl rfl H (fun _ H => ca_Bm6) rfl ?_)
  refine l_st (k_call evs_auto H (rchange_any _ b A c e _ hs h1 h2 (H.fact _ mem_auto)) rfl ?_)
  rintro _ w1 ⟨vs, rfl, hf⟩ hb H1
  obtain ⟨A1, c1, cs, rfl, _, _, H⟩ := H.take' hb hf
  repeat' (first | (apply l_rd; exact rd_go; rfl) | (apply q_rd; exact rd_go; rfl) | refine stp ?_ | refine bk_o rfl ?_ | refine c_true ⟨rfl, rfl⟩ ?_ | refine c_false ⟨rfl, rfl⟩ ?_ | (apply l_rdg; rfl; rfl; rfl; exact rd_go; rfl) | refine l_skip rfl rfl rfl rfl ?_ | (apply q_rdg; rfl; rfl; rfl; exact rd_go; rfl) | refine q_skip rfl rfl rfl rfl ?_ | refine c_draw H (by kernel_rfl) ?_ | (refine q_end ?_; clear H; intro _ H) | ((first | refine l_st (z_box H ?_) | refine l_st (s_alloc H rfl ?_)); clear H; intro _ _ _ H) | (refine l_st (t_build0 H rfl ?_); clear H; intro _ _ _ _ H) | (refine l_st (z_sto H ?_); clear H; intro _ H) | ((first | refine c_cond ⟨rfl, rfl⟩ ?_ ?_ | refine c_ncond ⟨rfl, rfl⟩ ?_ ?_ | refine l_split rfl rfl ?_ ?_ | refine q_split rfl rfl ?_ ?_ | refine l_nsplit rfl rfl ?_ ?_ | refine q_nsplit rfl rfl ?_ ?_) <;> intro _ <;> try (exfalso; omega)) | (refine l_st (k_call1 evs_auto H ca_Bm6 rfl ?_); clear H; intro _ _ H) | (refine l_st (k_callg1 evs_auto rfl rfl rfl H ca_Bm6 rfl ?_); clear H; intro _ _ H) | refine kq_call1 evs_auto H (fun _ H => ca_Bm6) rfl ?_ | refine kq_callg1 evs_auto rfl rfl rfl H (fun _ H => ca_Bm6) rfl ?_)
  exact retct (i := 0) H rfl rfl rfl rfl rfl rfl rfl ⟨_, rfl, H.fresh (j := 0) rfl (List.mem_cons_self ..) rfl⟩
end Go.Proofs.YtiolpldihoghiaaDoor

namespace Go.Proofs.YtiolpldihoghiaaDoor
open Go.RowKit
set_option linter.unusedVariables false
set_option linter.unusedSimpArgs false
set_option maxHeartbeats 4000000
theorem ext_rng {w : World} {M : Nat → Prop} {A : Option Addr} {xs : List Ext} (h : Stab w M (Row kExt 2 A xs)) : ∀ x ∈ xs, rng .i64 x.start ∧ rng .i64 x.count := by
  intro x hx
  obtain ⟨cs, hd⟩ := mem_row h (by decide) hx
  exact hd.now.2
theorem from_any (M : Nat → Prop) (n : Int) (l : List Ext) (B : Option Addr) (d : Nat) (w : World) (hn : rng .i64 n) (hF : Stab w M (Row kExt 2 B l)) :
    Ret Tryd.prog 81 [.int .i64 n, .slice B l.length d] w (BmRet M w (fromBm n l)) := by
  have hx := ext_rng hF
  have hl := hF.now.len
  refine enter (M := M) (F := [Row kExt 2 B l]) Tryd.func81 rfl rfl rfl (by simpa using hF) fun H => ?_
  repeat' (first | (apply l_rd; exact rd_go; rfl) | (apply q_rd; exact rd_go; rfl) | refine stp ?_ | refine bk_o rfl ?_ | refine c_true ⟨rfl, rfl⟩ ?_ | refine c_false ⟨rfl, rfl⟩ ?_ | (apply l_rdg; rfl; rfl; rfl; exact rd_go; rfl) | refine l_skip rfl rfl rfl rfl ?_ | (apply q_rdg; rfl; rfl; rfl; exact rd_go; rfl) | refine q_skip rfl rfl rfl rfl ?_ | (refine q_end ?_; clear H; intro _ H) | ((first | refine l_st (z_box H ?_) | refine l_st (s_alloc H rfl ?_)); clear H; intro _ _ _ H) | (refine l_st (t_build0 H rfl ?_); clear H; intro _ _ _ _ H) | (refine l_st (z_sto H ?_); clear H; intro _ H) | ((first | refine c_cond ⟨rfl, rfl⟩ ?_ ?_ | refine c_ncond ⟨rfl, rfl⟩ ?_ ?_ | refine l_split rfl rfl ?_ ?_ | refine q_split rfl rfl ?_ ?_ | refine l_nsplit rfl rfl ?_ ?_ | refine q_nsplit rfl rfl ?_ ?_) <;> intro _ <;> try (exfalso; omega)))
  refine l_st (k_call evs_auto H (new_any M _ _ hn) rfl ?_)
  rintro _ w1 ⟨vs, rfl, hf⟩ hb _
  obtain ⟨A1, c1, cs, rfl, _, _, H1⟩ := H.take' hb hf.int
  obtain rfl := chunks_int (H1.fact _ (List.mem_cons_self ..)).now
  clear H hf hb
  have H := H1
  clear H1
  repeat' (first | (apply l_rd; exact rd_go; rfl) | (apply q_rd; exact rd_go; rfl) | refine stp ?_ | refine bk_o rfl ?_ | refine c_true ⟨rfl, rfl⟩ ?_ | refine c_false ⟨rfl, rfl⟩ ?_ | (apply l_rdg; rfl; rfl; rfl; exact rd_go; rfl) | refine l_skip rfl rfl rfl rfl ?_ | (apply q_rdg; rfl; rfl; rfl; exact rd_go; rfl) | refine q_skip rfl rfl rfl rfl ?_ | (refine q_end ?_; clear H; intro _ H) | ((first | refine l_st (z_box H ?_) | refine l_st (s_alloc H rfl ?_)); clear H; intro _ _ _ H) | (refine l_st (t_build0 H rfl ?_); clear H; intro _ _ _ _ H) | (refine l_st (z_sto H ?_); clear H; intro _ H) | ((first | refine c_cond ⟨rfl, rfl⟩ ?_ ?_ | refine c_ncond ⟨rfl, rfl⟩ ?_ ?_ | refine l_split rfl rfl ?_ ?_ | refine q_split rfl rfl ?_ ?_ | refine l_nsplit rfl rfl ?_ ?_ | refine q_nsplit rfl rfl ?_ ?_) <;> intro _ <;> try (exfalso; omega)))
  · have h : (newBm n).2 ≠ 0 := by assumption
    refine retct (i := 1) H rfl rfl rfl rfl rfl rfl rfl (bm_ret0 H ?_)
    unfold fromBm; rw [fromGo_bad h]; exact newBm_bad h
  have h : ¬ (newBm n).2 ≠ 0 := by assumption
  have h0 : newBm n = ((newBm n).1, 0) := by rw [← show (newBm n).2 = 0 from by simpa using h]
  refine c_loopk [21] [4, 6, 19, 20] (fun m vs w' => ∃ (i : Nat) (b : Bm) (A : Option Addr) (c : Nat), vs = [.int .i64 i] ∧ i ≤ l.length ∧ m = l.length - i ∧ BmOk b ∧ fromGo (b, 0) (l.drop i) = fromBm n l ∧
      Hp w M w' [⟨_, [.int .i64 b.size, .slice A b.words.length c], _⟩, ⟨_, [.int .i64 0, .slice none 0 0], _⟩] [⟨.slice A b.words.length c, 151, 1, b.words.length, b.words.map (Value.int .u64)⟩] [Row kExt 2 B l]) _ [_, _, _, _] rfl
      ⟨0, (newBm n).1, A1, c1, rfl, Nat.zero_le _, rfl, newBm_ok n, by rw [List.drop_zero, ← h0]; rfl, H.weak (List.Sublist.refl _) (List.Sublist.refl _) (by simp)⟩ ?_
  clear H
  rintro m _ E0 w2 ⟨i, b, A, c, rfl, hi, rfl, hb, hg, H⟩
  repeat' (first | (apply l_rd; exact rd_go; rfl) | (apply q_rd; exact rd_go; rfl) | refine stp ?_ | refine bk_o rfl ?_ | refine c_true ⟨rfl, rfl⟩ ?_ | refine c_false ⟨rfl, rfl⟩ ?_ | (apply l_rdg; rfl; rfl; rfl; exact rd_go; rfl) | refine l_skip rfl rfl rfl rfl ?_ | (apply q_rdg; rfl; rfl; rfl; exact rd_go; rfl) | refine q_skip rfl rfl rfl rfl ?_ | (refine q_end ?_; clear H; intro _ H) | ((first | refine l_st (z_box H ?_) | refine l_st (s_alloc H rfl ?_)); clear H; intro _ _ _ H) | (refine l_st (t_build0 H rfl ?_); clear H; intro _ _ _ _ H) | (refine l_st (z_sto H ?_); clear H; intro _ H) | ((first | refine c_cond ⟨rfl, rfl⟩ ?_ ?_ | refine c_ncond ⟨rfl, rfl⟩ ?_ ?_ | refine l_split rfl rfl ?_ ?_ | refine q_split rfl rfl ?_ ?_ | refine l_nsplit rfl rfl ?_ ?_ | refine q_nsplit rfl rfl ?_ ?_) <;> intro _ <;> try (exfalso; omega)))
  · have hi' : i < l.length := by omega
    obtain ⟨e1, e2⟩ := hx _ (List.getElem_mem hi')
    refine l_st (k_call evs_auto H (set_any (fun _ => False) b A c (l[i]'hi') _ hb.size e1 e2 (H.own_row0 (j := 0) rfl hb.words rfl (by have := hb.len; omega))) rfl ?_)
    rintro _ w3 ⟨vs, rfl, hf⟩ hb3 _
    obtain ⟨A2, c2, cs, rfl, _, _, H2⟩ := H.take' hb3 hf.int
    obtain rfl := chunks_int (H2.fact _ (List.mem_cons_self ..)).now
    clear H hf hb3
    have H := H2
    clear H2
    repeat' (first | (apply l_rd; exact rd_go; rfl) | (apply q_rd; exact rd_go; rfl) | refine stp ?_ | refine bk_o rfl ?_ | refine c_true ⟨rfl, rfl⟩ ?_ | refine c_false ⟨rfl, rfl⟩ ?_ | (apply l_rdg; rfl; rfl; rfl; exact rd_go; rfl) | refine l_skip rfl rfl rfl rfl ?_ | (apply q_rdg; rfl; rfl; rfl; exact rd_go; rfl) | refine q_skip rfl rfl rfl rfl ?_ | (refine q_end ?_; clear H; intro _ H) | ((first | refine l_st (z_box H ?_) | refine l_st (s_alloc H rfl ?_)); clear H; intro _ _ _ H) | (refine l_st (t_build0 H rfl ?_); clear H; intro _ _ _ _ H) | (refine l_st (z_sto H ?_); clear H; intro _ H) | ((first | refine c_cond ⟨rfl, rfl⟩ ?_ ?_ | refine c_ncond ⟨rfl, rfl⟩ ?_ ?_ | refine l_split rfl rfl ?_ ?_ | refine q_split rfl rfl ?_ ?_ | refine l_nsplit rfl rfl ?_ ?_ | refine q_nsplit rfl rfl ?_ ?_) <;> intro _ <;> try (exfalso; omega)))
    · have h : (setBm b l[i]).2 ≠ 0 := by assumption
      refine retct (i := 2) H rfl rfl rfl rfl rfl rfl rfl (bm_ret0 H ?_)
      rw [← hg, fromGo_step hi', fromGo_bad h]; exact setBm_bad h
    · have h : ¬ (setBm b l[i]).2 ≠ 0 := by assumption
      have h0 : setBm b l[i] = ((setBm b l[i]).1, 0) := by rw [← show (setBm b l[i]).2 = 0 from by simpa using h]
      refine lk_n rfl (n' := l.length - (i + 1)) (by omega) ⟨i + 1, (setBm b l[i]).1, A2, c2, rfl, hi', rfl, setBm_ok hb _, by rw [← hg, fromGo_step hi', ← h0], H.weak (.cons _ (List.Sublist.refl _)) (.cons_cons _ (List.nil_sublist _)) (by simp)⟩
  · refine retct (i := 1) H rfl rfl rfl rfl rfl rfl rfl ?_
    have hi' : i = l.length := by omega
    refine bm_ret (j := 0) H rfl hb.words ?_
    rw [← hg, hi', List.drop_length]; rfl
theorem rfrom_any (M : Nat → Prop) (n : Int) (l : List Ext) (B : Option Addr) (d : Nat) (w : World) (hn : rng .i64 n) (hF : Stab w M (Row kExt 2 B l)) :
    Ret Tryd.prog 26 [.int .i64 n, .slice B l.length d] w (BmRet M w (fromBm n l)) := by
  have hx := ext_rng hF
  have hl := hF.now.len
  refine enter (M := M) (F := [Row kExt 2 B l]) Tryd.func26 rfl rfl rfl (by simpa using hF) fun H => ?_
  repeat' (first | (apply l_rd; exact rd_go; rfl) | (apply q_rd; exact rd_go; rfl) | refine stp ?_ | refine bk_o rfl ?_ | refine c_true ⟨rfl, rfl⟩ ?_ | refine c_false ⟨rfl, rfl⟩ ?_ | (apply l_rdg; rfl; rfl; rfl; exact rd_go; rfl) | refine l_skip rfl rfl rfl rfl ?_ | (apply q_rdg; rfl; rfl; rfl; exact rd_go; rfl) | refine q_skip rfl rfl rfl rfl ?_ | (refine q_end ?_; clear H; intro _ H) | ((first | refine l_st (z_box H ?_) | refine l_st (s_alloc H rfl ?_)); clear H; intro _ _ _ H) | (refine l_st (t_build0 H rfl ?_); clear H; intro _ _ _ _ H) | (refine l_st (z_sto H ?_); clear H; intro _ H) | ((first | refine c_cond ⟨rfl, rfl⟩ ?_ ?_ | refine c_ncond ⟨rfl, rfl⟩ ?_ ?_ | refine l_split rfl rfl ?_ ?_ | refine q_split rfl rfl ?_ ?_ | refine l_nsplit rfl rfl ?_ ?_ | refine q_nsplit rfl rfl ?_ ?_) <;> intro _ <;> try (exfalso; omega)))
  refine l_st (k_call evs_auto H (rNew_any M _ _ hn) rfl ?_)
  rintro _ w1 ⟨vs, rfl, hf⟩ hb _
  obtain ⟨A1, c1, cs, rfl, _, _, H1⟩ := H.take' hb hf.int
  obtain rfl := chunks_int (H1.fact _ (List.mem_cons_self ..)).now
  clear H hf hb
  have H := H1
  clear H1
  repeat' (first | (apply l_rd; exact rd_go; rfl) | (apply q_rd; exact rd_go; rfl) | refine stp ?_ | refine bk_o rfl ?_ | refine c_true ⟨rfl, rfl⟩ ?_ | refine c_false ⟨rfl, rfl⟩ ?_ | (apply l_rdg; rfl; rfl; rfl; exact rd_go; rfl) | refine l_skip rfl rfl rfl rfl ?_ | (apply q_rdg; rfl; rfl; rfl; exact rd_go; rfl) | refine q_skip rfl rfl rfl rfl ?_ | (refine q_end ?_; clear H; intro _ H) | ((first | refine l_st (z_box H ?_) | refine l_st (s_alloc H rfl ?_)); clear H; intro _ _ _ H) | (refine l_st (t_build0 H rfl ?_); clear H; intro _ _ _ _ H) | (refine l_st (z_sto H ?_); clear H; intro _ H) | ((first | refine c_cond ⟨rfl, rfl⟩ ?_ ?_ | refine c_ncond ⟨rfl, rfl⟩ ?_ ?_ | refine l_split rfl rfl ?_ ?_ | refine q_split rfl rfl ?_ ?_ | refine l_nsplit rfl rfl ?_ ?_ | refine q_nsplit rfl rfl ?_ ?_) <;> intro _ <;> try (exfalso; omega)))
  refine c_loopk [8, 7] [1, 4, 6] (fun m vs w' => ∃ (i : Nat) (b : Bm) (e : Int) (A : Option Addr) (c : Nat), vs = [.int .i64 i, .int .i64 e] ∧ i ≤ l.length ∧ m = l.length - i ∧ BmOk b ∧ fromGo (b, e) (l.drop i) = fromBm n l ∧
      Hp w M w' [⟨_, [.int .i64 b.size, .slice A b.words.length c], _⟩, ⟨_, [.int .i64 0, .slice none 0 0], _⟩] [⟨.slice A b.words.length c, 151, 1, b.words.length, b.words.map (Value.int .u64)⟩] [Row kExt 2 B l]) _ [_, _, _] rfl
      ⟨0, (newBm n).1, (newBm n).2, A1, c1, rfl, Nat.zero_le _, rfl, newBm_ok n, by rw [List.drop_zero]; rfl, H.weak (List.Sublist.refl _) (List.Sublist.refl _) (by simp)⟩ ?_
  clear H
  rintro m _ E0 w2 ⟨i, b, e, A, c, rfl, hi, rfl, hb, hg, H⟩
  repeat' (first | (apply l_rd; exact rd_go; rfl) | (apply q_rd; exact rd_go; rfl) | refine stp ?_ | refine bk_o rfl ?_ | refine c_true ⟨rfl, rfl⟩ ?_ | refine c_false ⟨rfl, rfl⟩ ?_ | (apply l_rdg; rfl; rfl; rfl; exact rd_go; rfl) | refine l_skip rfl rfl rfl rfl ?_ | (apply q_rdg; rfl; rfl; rfl; exact rd_go; rfl) | refine q_skip rfl rfl rfl rfl ?_ | (refine q_end ?_; clear H; intro _ H) | ((first | refine l_st (z_box H ?_) | refine l_st (s_alloc H rfl ?_)); clear H; intro _ _ _ H) | (refine l_st (t_build0 H rfl ?_); clear H; intro _ _ _ _ H) | (refine l_st (z_sto H ?_); clear H; intro _ H) | ((first | refine c_cond ⟨rfl, rfl⟩ ?_ ?_ | refine c_ncond ⟨rfl, rfl⟩ ?_ ?_ | refine l_split rfl rfl ?_ ?_ | refine q_split rfl rfl ?_ ?_ | refine l_nsplit rfl rfl ?_ ?_ | refine q_nsplit rfl rfl ?_ ?_) <;> intro _ <;> try (exfalso; omega)))
  · obtain rfl : e = 0 := by assumption
    have hi' : i < l.length := by omega
    obtain ⟨e1, e2⟩ := hx _ (List.getElem_mem hi')
    refine c_mix H [9, 10] ?_
    clear H; intro w3 H
    (apply m_rd (i := 0) rfl (by decide +kernel) (by first | exact Below.refl _ _ | assumption); exact rd_go; rfl); (apply m_rd (i := 1) rfl (by decide +kernel) (by first | exact Below.refl _ _ | assumption); exact rd_go; rfl); (apply m_rd (i := 2) rfl (by decide +kernel) (by first | exact Below.refl _ _ | assumption); exact rd_go; rfl); (apply m_rd (i := 3) rfl (by decide +kernel) (by first | exact Below.refl _ _ | assumption); exact rd_go; rfl); (apply m_rd (i := 4) rfl (by decide +kernel) (by first | exact Below.refl _ _ | assumption); exact rd_go; rfl)
    refine m_one (i := 5) (by kernel_rfl) rfl (k_call evs_auto H (rSet_any (fun _ => False) b A c (l[i]'hi') _ hb.size e1 e2 (H.own_row0 (j := 0) rfl hb.words rfl (by have := hb.len; omega))) rfl ?_)
    rintro _ w4 ⟨vs, rfl, hf⟩ hb3 _
    obtain ⟨A2, c2, cs, rfl, _, _, H2⟩ := H.take' hb3 hf.int
    obtain rfl := chunks_int (H2.fact _ (List.mem_cons_self ..)).now
    refine ⟨fun _ => hb3, ?_⟩
    (apply m_pure (i := 6) rfl (by decide +kernel); intro _; exact rd_go; rfl); (apply m_pure (i := 7) rfl (by decide +kernel); intro _; exact rd_go; rfl); (apply m_pure (i := 8) rfl (by decide +kernel); intro _; exact rd_go; rfl)
    refine m_one (i := 9) (by kernel_rfl) rfl (s_storea (i := 0) H2 ⟨rfl, rfl⟩ rfl ⟨rfl, rfl⟩ rfl rfl rfl ?_)
    intro w5 H5
    refine ⟨fun h => (by cases h), ?_⟩
    (apply m_pure (i := 10) rfl (by decide +kernel); intro _; exact rd_go; rfl)
    refine m_end (by kernel_rfl) ?_
    clear H H2 hf hb3
    have H := H5
    clear H5
    repeat' (first | (apply l_rd; exact rd_go; rfl) | (apply q_rd; exact rd_go; rfl) | refine stp ?_ | refine bk_o rfl ?_ | refine c_true ⟨rfl, rfl⟩ ?_ | refine c_false ⟨rfl, rfl⟩ ?_ | (apply l_rdg; rfl; rfl; rfl; exact rd_go; rfl) | refine l_skip rfl rfl rfl rfl ?_ | (apply q_rdg; rfl; rfl; rfl; exact rd_go; rfl) | refine q_skip rfl rfl rfl rfl ?_ | (refine q_end ?_; clear H; intro _ H) | ((first | refine l_st (z_box H ?_) | refine l_st (s_alloc H rfl ?_)); clear H; intro _ _ _ H) | (refine l_st (t_build0 H rfl ?_); clear H; intro _ _ _ _ H) | (refine l_st (z_sto H ?_); clear H; intro _ H) | ((first | refine c_cond ⟨rfl, rfl⟩ ?_ ?_ | refine c_ncond ⟨rfl, rfl⟩ ?_ ?_ | refine l_split rfl rfl ?_ ?_ | refine q_split rfl rfl ?_ ?_ | refine l_nsplit rfl rfl ?_ ?_ | refine q_nsplit rfl rfl ?_ ?_) <;> intro _ <;> try (exfalso; omega)))
    exact lk_n rfl (n' := l.length - (i + 1)) (by omega) ⟨i + 1, (setBm b l[i]).1, (setBm b l[i]).2, A2, c2, rfl, hi', rfl, setBm_ok hb _, by rw [← hg, fromGo_step hi'], H.weak (List.Sublist.refl _) (.cons_cons _ (List.nil_sublist _)) (by simp)⟩
  · have he : e ≠ 0 := by assumption
    refine retct (i := 1) H rfl rfl rfl rfl rfl rfl rfl ?_
    refine bm_ret (j := 0) H rfl hb.words ?_
    rw [← hg, fromGo_bad he]
  · refine retct (i := 1) H rfl rfl rfl rfl rfl rfl rfl ?_
    have hi' : i = l.length := by omega
    refine bm_ret (j := 0) H rfl hb.words ?_
    rw [← hg, hi', List.drop_length]; rfl
end Go.Proofs.YtiolpldihoghiaaDoor

namespace Go.Proofs.YtiolpldihoghiaaDoor
open Go.RowKit
set_option linter.unusedVariables false
set_option linter.unusedSimpArgs false
set_option maxHeartbeats 4000000
theorem ca_Bm8 {k : FuncId} {vs : List Value} {w1 : World} {v : Value} (h : Ret Tryd.prog k vs w1 (fun u _ => u = v) := by first | exact rCheck_any _ _ _ _ _ (by assumption) (H.fact _ mem_auto) | exact rbit_any _ _ _ _ _ _ _ (by omega) (by omega) (H.fact _ mem_auto)) : Ret Tryd.prog k vs w1 (fun u _ => u = v) := h
theorem sameExts_any (M : Nat → Prop) (xs ys : List Ext) (A B : Option Addr) (c d : Nat) (w : World) (hF : Stab w M (Row kExt 2 A xs)) (hF' : Stab w M (Row kExt 2 B ys)) :
    Ret Tryd.prog 49 [.slice A xs.length c, .slice B ys.length d] w fun v _ => v = .bool (decide (xs = ys)) := by
  have hl := hF.now.len
  refine enter (M := M) (F := [Row kExt 2 A xs, Row kExt 2 B ys]) Tryd.func49 rfl rfl rfl (by simpa using ⟨hF, hF'⟩) fun H => ?_
  repeat' (first | (apply l_rd; exact rd_go; rfl) | (apply q_rd; exact rd_go; rfl) | refine stp ?_ | refine bk_o rfl ?_ | refine c_true ⟨rfl, rfl⟩ ?_ | refine c_false ⟨rfl, rfl⟩ ?_ | (apply l_rdg; rfl; rfl; rfl; exact rd_go; rfl) | refine l_skip rfl rfl rfl rfl ?_ | (apply q_rdg; rfl; rfl; rfl; exact rd_go; rfl) | refine q_skip rfl rfl rfl rfl ?_ | refine c_draw H (by kernel_rfl) ?_ | (refine q_end ?_; clear H; intro _ H) | ((first | refine l_st (z_box H ?_) | refine l_st (s_alloc H rfl ?_)); clear H; intro _ _ _ H) | (refine l_st (t_build0 H rfl ?_); clear H; intro _ _ _ _ H) | (refine l_st (z_sto H ?_); clear H; intro _ H) | ((first | refine c_cond ⟨rfl, rfl⟩ ?_ ?_ | refine c_ncond ⟨rfl, rfl⟩ ?_ ?_ | refine l_split rfl rfl ?_ ?_ | refine q_split rfl rfl ?_ ?_ | refine l_nsplit rfl rfl ?_ ?_ | refine q_nsplit rfl rfl ?_ ?_) <;> intro _ <;> try (exfalso; omega)) | (refine l_st (k_call1 evs_auto H ca_Bm8 rfl ?_); clear H; intro _ _ H) | (refine l_st (k_callg1 evs_auto rfl rfl rfl H ca_Bm8 rfl ?_); clear H; intro _ _ H) | refine kq_call1 evs_auto H (fun _ H => ca_Bm8) rfl ?_ | refine kq_callg1 evs_auto rfl rfl rfl H (fun _ H => ca_Bm8) rfl ?_)
  · refine ret1 H rfl rfl rfl ?_
    refine bv ?_
    have : ¬ xs = ys := fun e => by subst e; contradiction
    simp [this]
  have hlen : xs.length = ys.length := by omega
  refine c_loopk [5] [0, 1] (fun n vs w' => ∃ i : Nat, vs = [.int .i64 i] ∧ i ≤ xs.length ∧ n = xs.length - i ∧ xs.take i = ys.take i ∧ Hp w M w' [] [] _) _ [_, _] rfl ⟨0, rfl, Nat.zero_le _, rfl, rfl, H⟩ ?_
  clear H
  rintro n _ E0 w2 ⟨i, rfl, hi, rfl, ht, H⟩
  repeat' (first | (apply l_rd; exact rd_go; rfl) | (apply q_rd; exact rd_go; rfl) | refine stp ?_ | refine bk_o rfl ?_ | refine c_true ⟨rfl, rfl⟩ ?_ | refine c_false ⟨rfl, rfl⟩ ?_ | (apply l_rdg; rfl; rfl; rfl; exact rd_go; rfl) | refine l_skip rfl rfl rfl rfl ?_ | (apply q_rdg; rfl; rfl; rfl; exact rd_go; rfl) | refine q_skip rfl rfl rfl rfl ?_ | refine c_draw H (by kernel_rfl) ?_ | (refine q_end ?_; clear H; intro _ H) | ((first | refine l_st (z_box H ?_) | refine l_st (s_alloc H rfl ?_)); clear H; intro _ _ _ H) | (refine l_st (t_build0 H rfl ?_); clear H; intro _ _ _ _ H) | (refine l_st (z_sto H ?_); clear H; intro _ H) | ((first | refine c_cond ⟨rfl, rfl⟩ ?_ ?_ | refine c_ncond ⟨rfl, rfl⟩ ?_ ?_ | refine l_split rfl rfl ?_ ?_ | refine q_split rfl rfl ?_ ?_ | refine l_nsplit rfl rfl ?_ ?_ | refine q_nsplit rfl rfl ?_ ?_) <;> intro _ <;> try (exfalso; omega)) | (refine l_st (k_call1 evs_auto H ca_Bm8 rfl ?_); clear H; intro _ _ H) | (refine l_st (k_callg1 evs_auto rfl rfl rfl H ca_Bm8 rfl ?_); clear H; intro _ _ H) | refine kq_call1 evs_auto H (fun _ H => ca_Bm8) rfl ?_ | refine kq_callg1 evs_auto rfl rfl rfl H (fun _ H => ca_Bm8) rfl ?_)
  · refine ret1 H rfl rfl rfl ?_
    refine bv ?_
    have : ¬ xs = ys := fun e => by subst e; simp at *
    simp [this]
  · have hxy : ¬¬(xs[i].start = ys[i].start ∧ xs[i].count = ys[i].count) := by assumption
    have he : xs[i] = ys[i] := by
      have := Classical.not_not.1 hxy
      cases hx : xs[i]; cases hy : ys[i]; rw [hx, hy] at this; simp_all
    exact lk_n rfl (n' := xs.length - (i + 1)) (by omega) ⟨i + 1, rfl, by omega, rfl, take_step (by omega) (by omega) ht he, H⟩
  · refine ret1 H rfl rfl rfl ?_
    refine bv ?_
    have hi' : i = xs.length := by omega
    subst hi'
    simp [take_all hlen ht]
theorem rSameInts23 (M : Nat → Prop) (xs ys : List Int) (A B : Option Addr) (c d : Nat) (w : World) (hF : Stab w M (Row (kInt .i64) 1 A xs)) (hF' : Stab w M (Row (kInt .i64) 1 B ys)) :
    Ret Tryd.prog 58 [.slice A xs.length c, .slice B ys.length d] w fun v _ => v = .bool (decide (xs = ys)) := by
  have hl := hF.now.len
  refine enter (M := M) (F := [Row (kInt .i64) 1 A xs, Row (kInt .i64) 1 B ys]) Tryd.func58 rfl rfl rfl (by simpa using ⟨hF, hF'⟩) fun H => ?_
  repeat' (first | (apply l_rd; exact rd_go; rfl) | (apply q_rd; exact rd_go; rfl) | refine stp ?_ | refine bk_o rfl ?_ | refine c_true ⟨rfl, rfl⟩ ?_ | refine c_false ⟨rfl, rfl⟩ ?_ | (apply l_rdg; rfl; rfl; rfl; exact rd_go; rfl) | refine l_skip rfl rfl rfl rfl ?_ | (apply q_rdg; rfl; rfl; rfl; exact rd_go; rfl) | refine q_skip rfl rfl rfl rfl ?_ | refine c_draw H (by kernel_rfl) ?_ | (refine q_end ?_; clear H; intro _ H) | ((first | refine l_st (z_box H ?_) | refine l_st (s_alloc H rfl ?_)); clear H; intro _ _ _ H) | (refine l_st (t_build0 H rfl ?_); clear H; intro _ _ _ _ H) | (refine l_st (z_sto H ?_); clear H; intro _ H) | ((first | refine c_cond ⟨rfl, rfl⟩ ?_ ?_ | refine c_ncond ⟨rfl, rfl⟩ ?_ ?_ | refine l_split rfl rfl ?_ ?_ | refine q_split rfl rfl ?_ ?_ | refine l_nsplit rfl rfl ?_ ?_ | refine q_nsplit rfl rfl ?_ ?_) <;> intro _ <;> try (exfalso; omega)) | (refine l_st (k_call1 evs_auto H ca_Bm8 rfl ?_); clear H; intro _ _ H) | (refine l_st (k_callg1 evs_auto rfl rfl rfl H ca_Bm8 rfl ?_); clear H; intro _ _ H) | refine kq_call1 evs_auto H (fun _ H => ca_Bm8) rfl ?_ | refine kq_callg1 evs_auto rfl rfl rfl H (fun _ H => ca_Bm8) rfl ?_)
  · refine ret1 H rfl rfl rfl ?_
    refine bv ?_
    have : ¬ xs = ys := fun e => by subst e; contradiction
    simp [this]
  have hlen : xs.length = ys.length := by omega
  refine c_loopk [5] [0, 1] (fun n vs w' => ∃ i : Nat, vs = [.int .i64 i] ∧ i ≤ xs.length ∧ n = xs.length - i ∧ xs.take i = ys.take i ∧ Hp w M w' [] [] _) _ [_, _] rfl ⟨0, rfl, Nat.zero_le _, rfl, rfl, H⟩ ?_
  clear H
  rintro n _ E0 w2 ⟨i, rfl, hi, rfl, ht, H⟩
  repeat' (first | (apply l_rd; exact rd_go; rfl) | (apply q_rd; exact rd_go; rfl) | refine stp ?_ | refine bk_o rfl ?_ | refine c_true ⟨rfl, rfl⟩ ?_ | refine c_false ⟨rfl, rfl⟩ ?_ | (apply l_rdg; rfl; rfl; rfl; exact rd_go; rfl) | refine l_skip rfl rfl rfl rfl ?_ | (apply q_rdg; rfl; rfl; rfl; exact rd_go; rfl) | refine q_skip rfl rfl rfl rfl ?_ | refine c_draw H (by kernel_rfl) ?_ | (refine q_end ?_; clear H; intro _ H) | ((first | refine l_st (z_box H ?_) | refine l_st (s_alloc H rfl ?_)); clear H; intro _ _ _ H) | (refine l_st (t_build0 H rfl ?_); clear H; intro _ _ _ _ H) | (refine l_st (z_sto H ?_); clear H; intro _ H) | ((first | refine c_cond ⟨rfl, rfl⟩ ?_ ?_ | refine c_ncond ⟨rfl, rfl⟩ ?_ ?_ | refine l_split rfl rfl ?_ ?_ | refine q_split rfl rfl ?_ ?_ | refine l_nsplit rfl rfl ?_ ?_ | refine q_nsplit rfl rfl ?_ ?_) <;> intro _ <;> try (exfalso; omega)) | (refine l_st (k_call1 evs_auto H ca_Bm8 rfl ?_); clear H; intro _ _ H) | (refine l_st (k_callg1 evs_auto rfl rfl rfl H ca_Bm8 rfl ?_); clear H; intro _ _ H) | refine kq_call1 evs_auto H (fun _ H => ca_Bm8) rfl ?_ | refine kq_callg1 evs_auto rfl rfl rfl H (fun _ H => ca_Bm8) rfl ?_)
  · refine ret1 H rfl rfl rfl ?_
    refine bv ?_
    have : ¬ xs = ys := fun e => by subst e; simp at *
    simp [this]
  · have he : xs[i] = ys[i] := by have : ¬ xs[i] ≠ ys[i] := by assumption
                                  omega
    exact lk_n rfl (n' := xs.length - (i + 1)) (by omega) ⟨i + 1, rfl, by omega, rfl, take_step (by omega) (by omega) ht he, H⟩
  · refine ret1 H rfl rfl rfl ?_
    refine bv ?_
    have hi' : i = xs.length := by omega
    subst hi'
    simp [take_all hlen ht]
theorem rSameInts15 (M : Nat → Prop) (xs ys : List Int) (A B : Option Addr) (c d : Nat) (w : World) (hF : Stab w M (Row (kInt .i64) 1 A xs)) (hF' : Stab w M (Row (kInt .i64) 1 B ys)) :
    Ret Tryd.prog 29 [.slice A xs.length c, .slice B ys.length d] w fun v _ => v = .bool (decide (xs = ys)) := by
  have hl := hF.now.len
  refine enter (M := M) (F := [Row (kInt .i64) 1 A xs, Row (kInt .i64) 1 B ys]) Tryd.func29 rfl rfl rfl (by simpa using ⟨hF, hF'⟩) fun H => ?_
  repeat' (first | (apply l_rd; exact rd_go; rfl) | (apply q_rd; exact rd_go; rfl) | refine stp ?_ | refine bk_o rfl ?_ | refine c_true ⟨rfl, rfl⟩ ?_ | refine c_false ⟨rfl, rfl⟩ ?_ | (apply l_rdg; rfl; rfl; rfl; exact rd_go; rfl) | refine l_skip rfl rfl rfl rfl ?_ | (apply q_rdg; rfl; rfl; rfl; exact rd_go; rfl) | refine q_skip rfl rfl rfl rfl ?_ | refine c_draw H (by kernel_rfl) ?_ | (refine q_end ?_; clear H; intro _ H) | ((first | refine l_st (z_box H ?_) | refine l_st (s_alloc H rfl ?_)); clear H; intro _ _ _ H) | (refine l_st (t_build0 H rfl ?_); clear H; intro _ _ _ _ H) | (refine l_st (z_sto H ?_); clear H; intro _ H) | ((first | refine c_cond ⟨rfl, rfl⟩ ?_ ?_ | refine c_ncond ⟨rfl, rfl⟩ ?_ ?_ | refine l_split rfl rfl ?_ ?_ | refine q_split rfl rfl ?_ ?_ | refine l_nsplit rfl rfl ?_ ?_ | refine q_nsplit rfl rfl ?_ ?_) <;> intro _ <;> try (exfalso; omega)) | (refine l_st (k_call1 evs_auto H ca_Bm8 rfl ?_); clear H; intro _ _ H) | (refine l_st (k_callg1 evs_auto rfl rfl rfl H ca_Bm8 rfl ?_); clear H; intro _ _ H) | refine kq_call1 evs_auto H (fun _ H => ca_Bm8) rfl ?_ | refine kq_callg1 evs_auto rfl rfl rfl H (fun _ H => ca_Bm8) rfl ?_)
  · refine ret1 H rfl rfl rfl ?_
    refine bv ?_
    have : ¬ xs = ys := fun e => by subst e; contradiction
    simp [this]
  have hlen : xs.length = ys.length := by omega
  refine c_loopk [5] [0, 1] (fun n vs w' => ∃ i : Nat, vs = [.int .i64 i] ∧ i ≤ xs.length ∧ n = xs.length - i ∧ xs.take i = ys.take i ∧ Hp w M w' [] [] _) _ [_, _] rfl ⟨0, rfl, Nat.zero_le _, rfl, rfl, H⟩ ?_
  clear H
  rintro n _ E0 w2 ⟨i, rfl, hi, rfl, ht, H⟩
  repeat' (first | (apply l_rd; exact rd_go; rfl) | (apply q_rd; exact rd_go; rfl) | refine stp ?_ | refine bk_o rfl ?_ | refine c_true ⟨rfl, rfl⟩ ?_ | refine c_false ⟨rfl, rfl⟩ ?_ | (apply l_rdg; rfl; rfl; rfl; exact rd_go; rfl) | refine l_skip rfl rfl rfl rfl ?_ | (apply q_rdg; rfl; rfl; rfl; exact rd_go; rfl) | refine q_skip rfl rfl rfl rfl ?_ | refine c_draw H (by kernel_rfl) ?_ | (refine q_end ?_; clear H; intro _ H) | ((first | refine l_st (z_box H ?_) | refine l_st (s_alloc H rfl ?_)); clear H; intro _ _ _ H) | (refine l_st (t_build0 H rfl ?_); clear H; intro _ _ _ _ H) | (refine l_st (z_sto H ?_); clear H; intro _ H) | ((first | refine c_cond ⟨rfl, rfl⟩ ?_ ?_ | refine c_ncond ⟨rfl, rfl⟩ ?_ ?_ | refine l_split rfl rfl ?_ ?_ | refine q_split rfl rfl ?_ ?_ | refine l_nsplit rfl rfl ?_ ?_ | refine q_nsplit rfl rfl ?_ ?_) <;> intro _ <;> try (exfalso; omega)) | (refine l_st (k_call1 evs_auto H ca_Bm8 rfl ?_); clear H; intro _ _ H) | (refine l_st (k_callg1 evs_auto rfl rfl rfl H ca_Bm8 rfl ?_); clear H; intro _ _ H) | refine kq_call1 evs_auto H (fun _ H => ca_Bm8) rfl ?_ | refine kq_callg1 evs_auto rfl rfl rfl H (fun _ H => ca_Bm8) rfl ?_)
  · refine ret1 H rfl rfl rfl ?_
    refine bv ?_
    have : ¬ xs = ys := fun e => by subst e; simp at *
    simp [this]
  · have he : xs[i] = ys[i] := by have : ¬ xs[i] ≠ ys[i] := by assumption
                                  omega
    exact lk_n rfl (n' := xs.length - (i + 1)) (by omega) ⟨i + 1, rfl, by omega, rfl, take_step (by omega) (by omega) ht he, H⟩
  · refine ret1 H rfl rfl rfl ?_
    refine bv ?_
    have hi' : i = xs.length := by omega
    subst hi'
    simp [take_all hlen ht]
theorem rGet_any (M : Nat → Prop) (b : Bm) (A : Option Addr) (c : Nat) (i : Int) (w : World) (hs : rng .i64 b.size) (hF : Stab w M (Row (kInt .u64) 1 A b.words)) :
    Ret Tryd.prog 27 [.agg [.int .i64 b.size, .slice A b.words.length c].toArray, .int .i64 i] w fun v _ => v = .bool (decide (b.err = 0 ∧ 0 ≤ i ∧ i < b.size ∧ bitOf b.words i.toNat = true)) := by
  refine enter (M := M) (F := [Row (kInt .u64) 1 A b.words]) Tryd.func27 rfl rfl rfl (by simpa using hF) fun H => ?_
  repeat' (first | (apply l_rd; exact rd_go; rfl) | (apply q_rd; exact rd_go; rfl) | refine stp ?_ | refine bk_o rfl ?_ | refine c_true ⟨rfl, rfl⟩ ?_ | refine c_false ⟨rfl, rfl⟩ ?_ | (apply l_rdg; rfl; rfl; rfl; exact rd_go; rfl) | refine l_skip rfl rfl rfl rfl ?_ | (apply q_rdg; rfl; rfl; rfl; exact rd_go; rfl) | refine q_skip rfl rfl rfl rfl ?_ | refine c_draw H (by kernel_rfl) ?_ | (refine q_end ?_; clear H; intro _ H) | ((first | refine l_st (z_box H ?_) | refine l_st (s_alloc H rfl ?_)); clear H; intro _ _ _ H) | (refine l_st (t_build0 H rfl ?_); clear H; intro _ _ _ _ H) | (refine l_st (z_sto H ?_); clear H; intro _ H) | ((first | refine c_cond ⟨rfl, rfl⟩ ?_ ?_ | refine c_ncond ⟨rfl, rfl⟩ ?_ ?_ | refine l_split rfl rfl ?_ ?_ | refine q_split rfl rfl ?_ ?_ | refine l_nsplit rfl rfl ?_ ?_ | refine q_nsplit rfl rfl ?_ ?_) <;> intro _ <;> try (exfalso; omega)) | (refine l_st (k_call1 evs_auto H ca_Bm8 rfl ?_); clear H; intro _ _ H) | (refine l_st (k_callg1 evs_auto rfl rfl rfl H ca_Bm8 rfl ?_); clear H; intro _ _ H) | refine kq_call1 evs_auto H (fun _ H => ca_Bm8) rfl ?_ | refine kq_callg1 evs_auto rfl rfl rfl H (fun _ H => ca_Bm8) rfl ?_)
  · have := Bm.fine_len (b := b) (by assumption)
    repeat' (first | (apply l_rd; exact rd_go; rfl) | (apply q_rd; exact rd_go; rfl) | refine stp ?_ | refine bk_o rfl ?_ | refine c_true ⟨rfl, rfl⟩ ?_ | refine c_false ⟨rfl, rfl⟩ ?_ | (apply l_rdg; rfl; rfl; rfl; exact rd_go; rfl) | refine l_skip rfl rfl rfl rfl ?_ | (apply q_rdg; rfl; rfl; rfl; exact rd_go; rfl) | refine q_skip rfl rfl rfl rfl ?_ | refine c_draw H (by kernel_rfl) ?_ | (refine q_end ?_; clear H; intro _ H) | ((first | refine l_st (z_box H ?_) | refine l_st (s_alloc H rfl ?_)); clear H; intro _ _ _ H) | (refine l_st (t_build0 H rfl ?_); clear H; intro _ _ _ _ H) | (refine l_st (z_sto H ?_); clear H; intro _ H) | ((first | refine c_cond ⟨rfl, rfl⟩ ?_ ?_ | refine c_ncond ⟨rfl, rfl⟩ ?_ ?_ | refine l_split rfl rfl ?_ ?_ | refine q_split rfl rfl ?_ ?_ | refine l_nsplit rfl rfl ?_ ?_ | refine q_nsplit rfl rfl ?_ ?_) <;> intro _ <;> try (exfalso; omega)) | (refine l_st (k_call1 evs_auto H ca_Bm8 rfl ?_); clear H; intro _ _ H) | (refine l_st (k_callg1 evs_auto rfl rfl rfl H ca_Bm8 rfl ?_); clear H; intro _ _ H) | refine kq_call1 evs_auto H (fun _ H => ca_Bm8) rfl ?_ | refine kq_callg1 evs_auto rfl rfl rfl H (fun _ H => ca_Bm8) rfl ?_)
    refine ret1 H rfl rfl rfl ?_
    refine bv ?_
    simp [*]
  · refine ret1 H rfl rfl rfl ?_
    refine bv ?_
    simp [*]
  · refine ret1 H rfl rfl rfl ?_
    refine bv ?_
    simp; omega
  · refine ret1 H rfl rfl rfl ?_
    refine bv ?_
    simp [*]
end Go.Proofs.YtiolpldihoghiaaDoor

namespace Go.Proofs.YtiolpldihoghiaaDoor
open Go.RowKit
set_option linter.unusedVariables false
/-! ### Sizes -/
def sizesErr (l : List Int) : Int := if l.length < 1 ∨ 8 < l.length then 6 else if ∀ n ∈ l, 1 ≤ n ∧ n ≤ 4096 then 0 else 2
def sizesOf (im : List (List Sec)) : List Int := im.map fun v => (v.length : Int)
def imErr (im : List (List Sec)) : Int := sizesErr (sizesOf im)
theorem sizesErr_zero {l : List Int} (h : sizesErr l = 0) : 1 ≤ l.length ∧ l.length ≤ 8 ∧ ∀ n ∈ l, 1 ≤ n ∧ n ≤ 4096 := by
  unfold sizesErr at h
  split at h
  · cases h
  · split at h
    · rename_i h1 h2; exact ⟨by omega, by omega, h2⟩
    · cases h
theorem imErr_zero {im : List (List Sec)} (h : imErr im = 0) : 1 ≤ im.length ∧ im.length ≤ 8 ∧ ∀ v ∈ im, 1 ≤ v.length ∧ v.length ≤ 4096 := by
  obtain ⟨h1, h2, h3⟩ := sizesErr_zero h
  simp only [sizesOf, List.length_map, List.mem_map] at h1 h2 h3
  exact ⟨h1, h2, fun v hv => by have := h3 _ ⟨v, hv, rfl⟩; omega⟩
/-! ### Lineages -/
def linGo : Span → List Span → Bool
  | _, [] => true
  | last, x :: r => decide (x.from_ = last.to + 1 ∧ x.from_ ≤ x.to ∧ x.to ≤ 1073741824 ∧ 1 ≤ x.epoch ∧ x.epoch ≤ 1073741824 ∧ last.epoch < x.epoch) && linGo x r
def span0 : Span := ⟨0, 0, 0⟩
def linOk (l : List Span) : Bool := linGo span0 l
structure SpanIn (s : Span) : Prop where
  to : 0 ≤ s.to ∧ s.to ≤ 1073741824
  epoch : 0 ≤ s.epoch ∧ s.epoch ≤ 1073741824
theorem linGo_step {last x : Span} {l : List Span} {i : Nat} (h : i < l.length) (hx : l[i] = x) : linGo last (l.drop i) = (decide (x.from_ = last.to + 1 ∧ x.from_ ≤ x.to ∧ x.to ≤ 1073741824 ∧ 1 ≤ x.epoch ∧ x.epoch ≤ 1073741824 ∧ last.epoch < x.epoch) && linGo x (l.drop (i + 1))) := by
  rw [List.drop_eq_getElem_cons h, linGo, hx]
theorem linGo_no {last : Span} {l : List Span} {i : Nat} (h : i < l.length) (hx : ¬ (l[i].from_ = last.to + 1 ∧ l[i].from_ ≤ l[i].to ∧ l[i].to ≤ 1073741824 ∧ 1 ≤ l[i].epoch ∧ l[i].epoch ≤ 1073741824 ∧ last.epoch < l[i].epoch)) : linGo last (l.drop i) = false := by
  rw [linGo_step h rfl, decide_eq_false hx, Bool.false_and]
theorem linGo_yes {last : Span} {l : List Span} {i : Nat} (h : i < l.length) (hx : l[i].from_ = last.to + 1 ∧ l[i].from_ ≤ l[i].to ∧ l[i].to ≤ 1073741824 ∧ 1 ≤ l[i].epoch ∧ l[i].epoch ≤ 1073741824 ∧ last.epoch < l[i].epoch) : linGo last (l.drop i) = linGo l[i] (l.drop (i + 1)) := by
  rw [linGo_step h rfl, decide_eq_true hx, Bool.true_and]
theorem linGo_in : ∀ (l : List Span) (last : Span), SpanIn last → linGo last l = true → ∀ x ∈ l, SpanIn x
  | [], _, _, _, x, hx => by cases hx
  | y :: r, last, h1, h2, x, hx => by
    simp only [linGo, Bool.and_eq_true, decide_eq_true_iff] at h2
    obtain ⟨⟨q1, q2, q3, q4, q5, q6⟩, h3⟩ := h2
    have hy : SpanIn y := ⟨by have := h1.to; omega, by omega⟩
    rcases List.mem_cons.1 hx with rfl | hx
    · exact hy
    · exact linGo_in r y hy h3 x hx
theorem linOk_in {l : List Span} (h : linOk l = true) : ∀ x ∈ l, SpanIn x := linGo_in l span0 ⟨by decide, by decide⟩ h
def lastTo (l : List Span) : Int := ((l.getLast?).map Span.to).getD 0
theorem lastTo_at {l : List Span} {i : Nat} (h : i < l.length) (hi : i = l.length - 1) : lastTo l = l[i].to := by
  subst hi
  unfold lastTo
  rw [List.getLast?_eq_getElem?, List.getElem?_eq_getElem h]; rfl
def prevSpan (l : List Span) (i : Nat) : Span := if i = 0 then span0 else (l[i - 1]?).getD span0
/-! ### Points -/
def bmsErr : List Bm → List Int → Int
  | b :: bs, n :: ns => if b.err ≠ 0 then b.err else if b.size ≠ n then 22 else bmsErr bs ns
  | _, _ => 0
def ptErr (p : Pt) : Int :=
  if p.site < 0 ∨ 1073741824 < p.site then 2 else if linOk p.lin = false then 3 else if imErr p.im ≠ 0 then imErr p.im else if p.dirty.length ≠ p.im.length then 6 else bmsErr p.dirty (sizesOf p.im)
theorem bmsErr_step {l : List Bm} {ns : List Int} {i : Nat} (h : i < l.length) (h' : i < ns.length) : bmsErr (l.drop i) (ns.drop i) = if l[i].err ≠ 0 then l[i].err else if l[i].size ≠ ns[i] then 22 else bmsErr (l.drop (i + 1)) (ns.drop (i + 1)) := by
  rw [List.drop_eq_getElem_cons h, List.drop_eq_getElem_cons h', bmsErr]
theorem bmsErr_zero : ∀ (l : List Bm) (ns : List Int), l.length = ns.length → bmsErr l ns = 0 → ∀ i (h : i < l.length) (h' : i < ns.length), l[i].err = 0 ∧ l[i].size = ns[i]
  | [], _, _, _, i, h, _ => absurd h (Nat.not_lt_zero _)
  | b :: bs, [], hl, _, _, _, h' => absurd h' (Nat.not_lt_zero _)
  | b :: bs, n :: ns, hl, he, i, h, h' => by
    rw [bmsErr] at he
    split at he
    · contradiction
    · split at he
      · cases he
      · rename_i h1 h2
        cases i with
        | zero => exact ⟨by simpa using h1, by simpa using h2⟩
        | succ i => exact bmsErr_zero bs ns (by simpa using hl) he i (by simpa using h) (by simpa using h')
structure PtOk (p : Pt) : Prop where
  site : 0 ≤ p.site ∧ p.site ≤ 1073741824
  lin : linOk p.lin = true
  im : 1 ≤ p.im.length ∧ p.im.length ≤ 8 ∧ ∀ v ∈ p.im, 1 ≤ v.length ∧ v.length ≤ 4096
  len : p.dirty.length = p.im.length
  bm : ∀ i (h : i < p.dirty.length) (h' : i < p.im.length), p.dirty[i].err = 0 ∧ p.dirty[i].size = p.im[i].length
theorem ptErr_zero {p : Pt} (h : ptErr p = 0) : PtOk p := by
  unfold ptErr at h
  split at h
  · cases h
  · split at h
    · cases h
    · split at h
      · contradiction
      · split at h
        · cases h
        · rename_i h1 h2 h3 h4
          refine ⟨by omega, by simpa using h2, imErr_zero (by omega), by omega, fun i hi hi' => ?_⟩
          have := bmsErr_zero _ _ (by simp [sizesOf]; omega) h i hi (by simpa [sizesOf] using hi')
          simpa [sizesOf] using this
def undoSp (p : Pt) (n : Int) : List (List Ext) × Int :=
  if ptErr p ≠ 0 then ([], ptErr p) else if n < 0 ∨ lastTo p.lin < n then ([], 2) else (p.dirty.map exts, 0)
/-- The sectors that are marked in one of two bitmaps. -/
def orExts (x y : Bm) : List Ext := exts (orBm x y).1
def betw (a b : Pt) : List (List Ext) := List.zipWith orExts a.dirty b.dirty
def betwSp (a b : Pt) : List (List Ext) × Int :=
  if ptErr a ≠ 0 then ([], ptErr a) else if ptErr b ≠ 0 then ([], ptErr b) else if sizesOf a.im ≠ sizesOf b.im then ([], 22) else (betw a b, 0)
theorem extsUpto_congr {f g : Nat → Bool} : ∀ n, (∀ k, k < n → f k = g k) → extsUpto f n = extsUpto g n
  | 0, _ => rfl
  | n + 1, h => by rw [extsUpto, extsUpto, h n (Nat.lt_succ_self n), extsUpto_congr n fun k hk => h k (Nat.lt_succ_of_lt hk)]
theorem orBm_fine {x y : Bm} (hx : x.err = 0) (hy : y.err = 0) (hs : x.size = y.size) : orBm x y = (⟨x.size, wordsOf x.words.length fun j => bitOf x.words j || bitOf y.words j⟩, 0) ∧ (orBm x y).1.err = 0 := by
  have e : orBm x y = (⟨x.size, wordsOf x.words.length fun j => bitOf x.words j || bitOf y.words j⟩, 0) := by
    unfold orBm; rw [if_neg (by omega), if_neg (by omega), if_neg (by omega)]
  refine ⟨e, ?_⟩
  obtain ⟨h1, h2, h3, h4⟩ := Bm.err_zero hx
  obtain ⟨k1, k2, k3, k4⟩ := Bm.err_zero hy
  rw [e]
  refine Bm.err_pos ⟨h1, h2, by rw [wordsOf_length]; exact h3, fun i hi hl => ?_⟩
  simp only at hi hl ⊢
  rw [wordsOf_length] at hl
  rw [wordsOf_bit hl, h4 i hi hl, k4 i (by omega) (by omega)]; rfl
theorem orExts_eq {x y : Bm} (hx : x.err = 0) (hy : y.err = 0) (hs : x.size = y.size) : orExts x y = extsUpto (fun k => bitOf x.words k || bitOf y.words k) x.size.toNat := by
  obtain ⟨e, h⟩ := orBm_fine hx hy hs
  unfold orExts exts
  rw [if_neg (by omega)]
  rw [e]
  obtain ⟨h1, h2, h3, _⟩ := Bm.err_zero hx
  refine extsUpto_congr _ fun k hk => ?_
  have hk' : k < 64 * x.words.length := by simp only at hk; omega
  exact wordsOf_bit (f := fun j => bitOf x.words j || bitOf y.words j) hk'
/-! ### Ancestors -/
def ancGo : Int × Int → List Span → List Span → Int × Int
  | p, x :: xs, y :: ys => if x.epoch ≠ y.epoch then p else if x.to ≠ y.to then (min x.to y.to, x.epoch) else ancGo (min x.to y.to, x.epoch) xs ys
  | p, _, _ => p
def anc (a b : List Span) : Int × Int := if linOk a = false ∨ linOk b = false then (0, 0) else ancGo (0, 0) a b
theorem ancGo_step {p : Int × Int} {a b : List Span} {i : Nat} (h : i < a.length) (h' : i < b.length) : ancGo p (a.drop i) (b.drop i) = if a[i].epoch ≠ b[i].epoch then p else if a[i].to ≠ b[i].to then (min a[i].to b[i].to, a[i].epoch) else ancGo (min a[i].to b[i].to, a[i].epoch) (a.drop (i + 1)) (b.drop (i + 1)) := by
  rw [List.drop_eq_getElem_cons h, List.drop_eq_getElem_cons h', ancGo]
theorem ancGo_end {p : Int × Int} {a b : List Span} {i : Nat} (h : a.length ≤ i ∨ b.length ≤ i) : ancGo p (a.drop i) (b.drop i) = p := by
  rcases h with h | h
  · rw [List.drop_of_length_le h]; cases b.drop i <;> rfl
  · rw [List.drop_of_length_le h]; cases a.drop i <;> rfl
/-! ### Writes and cycles -/
def fitsErr (sizes : List Int) (x : Wr) : Int :=
  if x.vol < 0 ∨ (sizes.length : Int) ≤ x.vol then 7 else if x.data.length = 0 then 1 else if x.start < 0 ∨ (sizes[x.vol.toNat]?).getD 0 - x.data.length < x.start then 2 else 0
def wrsGo (sizes : List Int) : Option Wr → List Wr → Int
  | _, [] => 0
  | none, x :: r => if fitsErr sizes x ≠ 0 then fitsErr sizes x else wrsGo sizes (some x) r
  | some y, x :: r => if fitsErr sizes x ≠ 0 then fitsErr sizes x else if x.vol < y.vol ∨ x.vol = y.vol ∧ x.start ≤ y.start + y.data.length then 3 else wrsGo sizes (some x) r
def wrsErr (l : List Wr) (sizes : List Int) : Int := if sizesErr sizes ≠ 0 then sizesErr sizes else wrsGo sizes none l
def posErr (l : List Int) : Int := if ∀ n ∈ l, 0 ≤ n ∧ n ≤ 1073741824 then 0 else 2
def cycErr (c : Cyc) (sizes : List Int) : Int :=
  if sizesErr sizes ≠ 0 then sizesErr sizes else if c.base < 0 ∨ c.number ≤ c.base ∨ 1073741824 < c.number then 2 else if c.time < 0 ∨ 1073741824 < c.time then 24 else if 8 < c.pos.length then 6 else if posErr c.pos ≠ 0 then posErr c.pos else wrsErr c.writes sizes
end Go.Proofs.YtiolpldihoghiaaDoor

namespace Go.Proofs.YtiolpldihoghiaaDoor
open Go.RowKit
set_option linter.unusedVariables false
set_option linter.unusedSimpArgs false
set_option maxHeartbeats 4000000
theorem ca_Bm9 {k : FuncId} {vs : List Value} {w1 : World} {v : Value} (h : Ret Tryd.prog k vs w1 (fun u _ => u = v) := by first | exact rCheck_any _ _ _ _ _ (by assumption) (H.fact _ mem_auto) | exact rbit_any _ _ _ _ _ _ _ (by omega) (by omega) (H.fact _ mem_auto)) : Ret Tryd.prog k vs w1 (fun u _ => u = v) := h
theorem rExtents_any (M : Nat → Prop) (b : Bm) (A : Option Addr) (c : Nat) (w : World) (hs : rng .i64 b.size) (hF : Stab w M (Row (kInt .u64) 1 A b.words)) :
    Ret Tryd.prog 46 [.agg [.int .i64 b.size, .slice A b.words.length c].toArray] w fun v w' => Fresh kExt 103 2 M w (exts b) v w' := by
  refine enter (M := M) (F := [Row (kInt .u64) 1 A b.words]) Tryd.func46 rfl rfl rfl (by simpa using hF) fun H => ?_
  repeat' (first | (apply l_rd; exact rd_go; rfl) | (apply q_rd; exact rd_go; rfl) | refine stp ?_ | refine bk_o rfl ?_ | refine c_true ⟨rfl, rfl⟩ ?_ | refine c_false ⟨rfl, rfl⟩ ?_ | (apply l_rdg; rfl; rfl; rfl; exact rd_go; rfl) | refine l_skip rfl rfl rfl rfl ?_ | (apply q_rdg; rfl; rfl; rfl; exact rd_go; rfl) | refine q_skip rfl rfl rfl rfl ?_ | refine c_draw H (by kernel_rfl) ?_ | (refine q_end ?_; clear H; intro _ H) | ((first | refine l_st (z_box H ?_) | refine l_st (s_alloc H rfl ?_)); clear H; intro _ _ _ H) | (refine l_st (t_build0 H rfl ?_); clear H; intro _ _ _ _ H) | (refine l_st (z_sto H ?_); clear H; intro _ H) | ((first | refine c_cond ⟨rfl, rfl⟩ ?_ ?_ | refine c_ncond ⟨rfl, rfl⟩ ?_ ?_ | refine l_split rfl rfl ?_ ?_ | refine q_split rfl rfl ?_ ?_ | refine l_nsplit rfl rfl ?_ ?_ | refine q_nsplit rfl rfl ?_ ?_) <;> intro _ <;> try (exfalso; omega)) | (refine l_st (k_call1 evs_auto H ca_Bm9 rfl ?_); clear H; intro _ _ H) | (refine l_st (k_callg1 evs_auto rfl rfl rfl H ca_Bm9 rfl ?_); clear H; intro _ _ H) | refine kq_call1 evs_auto H (fun _ H => ca_Bm9) rfl ?_ | refine kq_callg1 evs_auto rfl rfl rfl H (fun _ H => ca_Bm9) rfl ?_)
  · have h : b.err ≠ 0 := by assumption
    refine ret1 H rfl rfl rfl ?_
    unfold exts; rw [if_pos h]; exact H.fresh_nil
  have h : ¬ b.err ≠ 0 := by assumption
  obtain ⟨h3, h4, h5⟩ := Bm.fine_len (b := b) (by omega)
  have H1 := H.own_nil 103 2
  refine c_loopk [4, 3] [1] (fun n vs w' => ∃ (i : Nat) (A' : Option Addr) (c' : Nat), vs = [.int .i64 i, .slice A' (extsUpto (bitOf b.words) i).length c'] ∧ (i : Int) ≤ b.size ∧ n = (b.size - i).toNat ∧
      Hp w M w' [⟨_, [.int .i64 b.size, .slice A b.words.length c], _⟩] [⟨.slice A' (extsUpto (bitOf b.words) i).length c', 103, 2, (extsUpto (bitOf b.words) i).length, (extsUpto (bitOf b.words) i).flatMap fE⟩] [Row (kInt .u64) 1 A b.words]) _ [_] rfl
      ⟨0, none, 0, rfl, by omega, rfl, H1⟩ ?_
  clear H H1
  rintro n _ E0 w2 ⟨i, A', c', rfl, hi, rfl, H⟩
  have hin := extsUpto_in (bitOf b.words) i
  generalize hl : extsUpto (bitOf b.words) i = l at *
  have hin1 := hin.1
  repeat' (first | (apply l_rd; exact rd_go; rfl) | (apply q_rd; exact rd_go; rfl) | refine stp ?_ | refine bk_o rfl ?_ | refine c_true ⟨rfl, rfl⟩ ?_ | refine c_false ⟨rfl, rfl⟩ ?_ | (apply l_rdg; rfl; rfl; rfl; exact rd_go; rfl) | refine l_skip rfl rfl rfl rfl ?_ | (apply q_rdg; rfl; rfl; rfl; exact rd_go; rfl) | refine q_skip rfl rfl rfl rfl ?_ | refine c_draw H (by kernel_rfl) ?_ | (refine q_end ?_; clear H; intro _ H) | ((first | refine l_st (z_box H ?_) | refine l_st (s_alloc H rfl ?_)); clear H; intro _ _ _ H) | (refine l_st (t_build0 H rfl ?_); clear H; intro _ _ _ _ H) | (refine l_st (z_sto H ?_); clear H; intro _ H) | ((first | refine c_cond ⟨rfl, rfl⟩ ?_ ?_ | refine c_ncond ⟨rfl, rfl⟩ ?_ ?_ | refine l_split rfl rfl ?_ ?_ | refine q_split rfl rfl ?_ ?_ | refine l_nsplit rfl rfl ?_ ?_ | refine q_nsplit rfl rfl ?_ ?_) <;> intro _ <;> try (exfalso; omega)) | (refine l_st (k_call1 evs_auto H ca_Bm9 rfl ?_); clear H; intro _ _ H) | (refine l_st (k_callg1 evs_auto rfl rfl rfl H ca_Bm9 rfl ?_); clear H; intro _ _ H) | refine kq_call1 evs_auto H (fun _ H => ca_Bm9) rfl ?_ | refine kq_callg1 evs_auto rfl rfl rfl H (fun _ H => ca_Bm9) rfl ?_)
  · have hb : ¬ bitOf b.words (i : Int).toNat = true := by assumption
    refine lk_n rfl (n' := (b.size - (i + 1 : Nat)).toNat) (by omega) ⟨i + 1, A', c', ?_, by omega, rfl, ?_⟩
    · rw [extsUpto_no (by simpa using hb), hl]; rfl
    · rw [extsUpto_no (by simpa using hb), hl]; exact H
  · have hp : (l.length : Int) > 0 := by assumption
    have hq : ((l.length : Int) - 1).toNat < l.length := by omega
    obtain ⟨q1, q2, q3⟩ := hin.2 _ (List.getElem_mem hq)
    repeat' (first | (apply l_rd; exact rd_go; rfl) | (apply q_rd; exact rd_go; rfl) | refine stp ?_ | refine bk_o rfl ?_ | refine c_true ⟨rfl, rfl⟩ ?_ | refine c_false ⟨rfl, rfl⟩ ?_ | (apply l_rdg; rfl; rfl; rfl; exact rd_go; rfl) | refine l_skip rfl rfl rfl rfl ?_ | (apply q_rdg; rfl; rfl; rfl; exact rd_go; rfl) | refine q_skip rfl rfl rfl rfl ?_ | refine c_draw H (by kernel_rfl) ?_ | (refine q_end ?_; clear H; intro _ H) | ((first | refine l_st (z_box H ?_) | refine l_st (s_alloc H rfl ?_)); clear H; intro _ _ _ H) | (refine l_st (t_build0 H rfl ?_); clear H; intro _ _ _ _ H) | (refine l_st (z_sto H ?_); clear H; intro _ H) | ((first | refine c_cond ⟨rfl, rfl⟩ ?_ ?_ | refine c_ncond ⟨rfl, rfl⟩ ?_ ?_ | refine l_split rfl rfl ?_ ?_ | refine q_split rfl rfl ?_ ?_ | refine l_nsplit rfl rfl ?_ ?_ | refine q_nsplit rfl rfl ?_ ?_) <;> intro _ <;> try (exfalso; omega)) | (refine l_st (k_call1 evs_auto H ca_Bm9 rfl ?_); clear H; intro _ _ H) | (refine l_st (k_callg1 evs_auto rfl rfl rfl H ca_Bm9 rfl ?_); clear H; intro _ _ H) | refine kq_call1 evs_auto H (fun _ H => ca_Bm9) rfl ?_ | refine kq_callg1 evs_auto rfl rfl rfl H (fun _ H => ca_Bm9) rfl ?_)
    · have hadd := addExt_last (l := l) (i := i) hq (by omega) (by assumption)
      refine l_st (t_store_flat (j := 0) (f := fE) (v := .slice _ _ _) (q := .int _ _) ⟨l[((l.length : Int) - 1).toNat].start, l[((l.length : Int) - 1).toNat].count + 1⟩ H rfl ⟨rfl, rfl⟩ ⟨rfl, rfl⟩ (fun _ => rfl) rfl hq (by decide) rfl rfl ?_)
      clear H; intro _ H
      repeat' (first | (apply l_rd; exact rd_go; rfl) | (apply q_rd; exact rd_go; rfl) | refine stp ?_ | refine bk_o rfl ?_ | refine c_true ⟨rfl, rfl⟩ ?_ | refine c_false ⟨rfl, rfl⟩ ?_ | (apply l_rdg; rfl; rfl; rfl; exact rd_go; rfl) | refine l_skip rfl rfl rfl rfl ?_ | (apply q_rdg; rfl; rfl; rfl; exact rd_go; rfl) | refine q_skip rfl rfl rfl rfl ?_ | refine c_draw H (by kernel_rfl) ?_ | (refine q_end ?_; clear H; intro _ H) | ((first | refine l_st (z_box H ?_) | refine l_st (s_alloc H rfl ?_)); clear H; intro _ _ _ H) | (refine l_st (t_build0 H rfl ?_); clear H; intro _ _ _ _ H) | (refine l_st (z_sto H ?_); clear H; intro _ H) | ((first | refine c_cond ⟨rfl, rfl⟩ ?_ ?_ | refine c_ncond ⟨rfl, rfl⟩ ?_ ?_ | refine l_split rfl rfl ?_ ?_ | refine q_split rfl rfl ?_ ?_ | refine l_nsplit rfl rfl ?_ ?_ | refine q_nsplit rfl rfl ?_ ?_) <;> intro _ <;> try (exfalso; omega)) | (refine l_st (k_call1 evs_auto H ca_Bm9 rfl ?_); clear H; intro _ _ H) | (refine l_st (k_callg1 evs_auto rfl rfl rfl H ca_Bm9 rfl ?_); clear H; intro _ _ H) | refine kq_call1 evs_auto H (fun _ H => ca_Bm9) rfl ?_ | refine kq_callg1 evs_auto rfl rfl rfl H (fun _ H => ca_Bm9) rfl ?_)
      have hlen : (extsUpto (bitOf b.words) (i + 1)).length = l.length := by rw [extsUpto_yes (by simpa using ‹bitOf b.words (i : Int).toNat = true›), hl, hadd, List.length_set]
      refine lk_n rfl (n' := (b.size - (i + 1 : Nat)).toNat) (by omega) ⟨i + 1, A', c', by rw [hlen]; rfl, by omega, rfl, ?_⟩
      rw [hlen, extsUpto_yes (by simpa using ‹bitOf b.words (i : Int).toNat = true›), hl, hadd]; exact H
    · have hadd := addExt_new (l := l) (i := i) hq (by omega) (by assumption)
      refine l_appf (j := 0) (f := fE) (v := .slice _ _ _) (xs := l) ⟨i, 1⟩ H rfl ⟨rfl, rfl⟩ rfl rfl rfl rfl (fun _ => ⟨rfl, rfl⟩) (by omega) rfl ?_
      clear H; intro A2 c2 _ _ H
      repeat' (first | (apply l_rd; exact rd_go; rfl) | (apply q_rd; exact rd_go; rfl) | refine stp ?_ | refine bk_o rfl ?_ | refine c_true ⟨rfl, rfl⟩ ?_ | refine c_false ⟨rfl, rfl⟩ ?_ | (apply l_rdg; rfl; rfl; rfl; exact rd_go; rfl) | refine l_skip rfl rfl rfl rfl ?_ | (apply q_rdg; rfl; rfl; rfl; exact rd_go; rfl) | refine q_skip rfl rfl rfl rfl ?_ | refine c_draw H (by kernel_rfl) ?_ | (refine q_end ?_; clear H; intro _ H) | ((first | refine l_st (z_box H ?_) | refine l_st (s_alloc H rfl ?_)); clear H; intro _ _ _ H) | (refine l_st (t_build0 H rfl ?_); clear H; intro _ _ _ _ H) | (refine l_st (z_sto H ?_); clear H; intro _ H) | ((first | refine c_cond ⟨rfl, rfl⟩ ?_ ?_ | refine c_ncond ⟨rfl, rfl⟩ ?_ ?_ | refine l_split rfl rfl ?_ ?_ | refine q_split rfl rfl ?_ ?_ | refine l_nsplit rfl rfl ?_ ?_ | refine q_nsplit rfl rfl ?_ ?_) <;> intro _ <;> try (exfalso; omega)) | (refine l_st (k_call1 evs_auto H ca_Bm9 rfl ?_); clear H; intro _ _ H) | (refine l_st (k_callg1 evs_auto rfl rfl rfl H ca_Bm9 rfl ?_); clear H; intro _ _ H) | refine kq_call1 evs_auto H (fun _ H => ca_Bm9) rfl ?_ | refine kq_callg1 evs_auto rfl rfl rfl H (fun _ H => ca_Bm9) rfl ?_)
      refine lk_n rfl (n' := (b.size - (i + 1 : Nat)).toNat) (by omega) ⟨i + 1, A2, c2, ?_, by omega, rfl, ?_⟩
      · rw [extsUpto_yes (by simpa using ‹bitOf b.words (i : Int).toNat = true›), hl, hadd]; rfl
      · rw [extsUpto_yes (by simpa using ‹bitOf b.words (i : Int).toNat = true›), hl, hadd]; exact H
  · have hadd := addExt_nil (l := l) (i := i) (by omega)
    refine l_appf (j := 0) (f := fE) (v := .slice _ _ _) (xs := l) ⟨i, 1⟩ H rfl ⟨rfl, rfl⟩ rfl rfl rfl rfl (fun _ => ⟨rfl, rfl⟩) (by omega) rfl ?_
    clear H; intro A2 c2 _ _ H
    repeat' (first | (apply l_rd; exact rd_go; rfl) | (apply q_rd; exact rd_go; rfl) | refine stp ?_ | refine bk_o rfl ?_ | refine c_true ⟨rfl, rfl⟩ ?_ | refine c_false ⟨rfl, rfl⟩ ?_ | (apply l_rdg; rfl; rfl; rfl; exact rd_go; rfl) | refine l_skip rfl rfl rfl rfl ?_ | (apply q_rdg; rfl; rfl; rfl; exact rd_go; rfl) | refine q_skip rfl rfl rfl rfl ?_ | refine c_draw H (by kernel_rfl) ?_ | (refine q_end ?_; clear H; intro _ H) | ((first | refine l_st (z_box H ?_) | refine l_st (s_alloc H rfl ?_)); clear H; intro _ _ _ H) | (refine l_st (t_build0 H rfl ?_); clear H; intro _ _ _ _ H) | (refine l_st (z_sto H ?_); clear H; intro _ H) | ((first | refine c_cond ⟨rfl, rfl⟩ ?_ ?_ | refine c_ncond ⟨rfl, rfl⟩ ?_ ?_ | refine l_split rfl rfl ?_ ?_ | refine q_split rfl rfl ?_ ?_ | refine l_nsplit rfl rfl ?_ ?_ | refine q_nsplit rfl rfl ?_ ?_) <;> intro _ <;> try (exfalso; omega)) | (refine l_st (k_call1 evs_auto H ca_Bm9 rfl ?_); clear H; intro _ _ H) | (refine l_st (k_callg1 evs_auto rfl rfl rfl H ca_Bm9 rfl ?_); clear H; intro _ _ H) | refine kq_call1 evs_auto H (fun _ H => ca_Bm9) rfl ?_ | refine kq_callg1 evs_auto rfl rfl rfl H (fun _ H => ca_Bm9) rfl ?_)
    refine lk_n rfl (n' := (b.size - (i + 1 : Nat)).toNat) (by omega) ⟨i + 1, A2, c2, ?_, by omega, rfl, ?_⟩
    · rw [extsUpto_yes (by simpa using ‹bitOf b.words (i : Int).toNat = true›), hl, hadd]; rfl
    · rw [extsUpto_yes (by simpa using ‹bitOf b.words (i : Int).toNat = true›), hl, hadd]; exact H
  · have hi' : i = b.size.toNat := by omega
    subst hi'
    have he : exts b = l := by unfold exts; rw [if_neg h, hl]
    refine ret1 H rfl rfl rfl ?_
    rw [he]
    refine (H.add (f := Chunks kExt 2 l (l.flatMap fE)) (fun w' _ _ => flat_chunks (f := fE) (fun _ => rfl) fun x hx => ?_)).fresh (j := 0) rfl (List.mem_cons_self ..) rfl
    obtain ⟨e1, e2, e3⟩ := hin.2 x hx
    exact ⟨rfl, by simp only [rng]; omega, by simp only [rng]; omega⟩
end Go.Proofs.YtiolpldihoghiaaDoor

namespace Go.Proofs.YtiolpldihoghiaaDoor
open Go.RowKit
set_option linter.unusedVariables false
set_option linter.unusedSimpArgs false
set_option maxHeartbeats 4000000
section
variable {P : Program} {N : Nat} {E : List (Nat × Value)} {dst : Option Tmp} {ty : TypeId} {pos : String} {af : Array Edge} {g : Option (Nat × Bool)} {w : World} {x y : Operand} {T u : TypeId} {a : Int}
class ArT (P : Program) (t : TypeId) (len : outParam Nat) (e sz : outParam Nat) : Prop where
  und : P.underlying t = some (.array len e)
  inf : ∃ i, P.info? e = some i ∧ i.size = sz
theorem arT {t len e sz : Nat} (h : P.underlying t = some (.array len e)) (hi : (P.info? e).map (·.size) = some sz) : ArT P t len e sz := by
  obtain ⟨i, h3, h4⟩ := Option.map_eq_some_iff.1 hi
  exact ⟨h, ⟨i, h3, h4⟩⟩
theorem rd_index_arr {len e sz b m : Nat} {k : IntKind} {i : Int} [hT : ArT P T len e sz] (hx : Ev N E x (lp b 0)) (hy : Ev N E y (.int k i)) (hi : i = (m : Int)) (hm : m < len) : Rd P ⟨dst, .indexAddr T x y, ty, pos, af, g⟩ N E w (lp b (m * sz)) := by
  obtain ⟨ii, h1, h2⟩ := hT.inf
  subst hi; subst h2
  refine ⟨fun ds w' hw => ?_⟩
  have e1 : (0 : Int) ≤ (m : Int) ∧ (m : Int) < (len : Int) := by omega
  have hx' := fr_eval (ds := ds) hx
  simp only [lp] at hx'
  simp [execOp, hx', fr_eval hy, Instr.indexAt, asIntOf, underlying, hT.und, run_sizeOf_ h1, lp, hm, Instr.sureAddr, add_zero_]
theorem rd_neg_u64 {n s : Nat} (hx : Ev N E x (.int .u64 n)) (h0 : 0 < n) (hn : n < 18446744073709551616) (hs : 18446744073709551616 - n = s) : Rd P ⟨dst, .unOp .neg T x, ty, pos, af, g⟩ N E w (.int .u64 (s : Int)) := by
  subst hs
  refine ⟨fun ds w' hw => ?_⟩
  have e : IntKind.u64.wrap (0 - (n : Int)) = ((18446744073709551616 - n : Nat) : Int) := by rw [wrap_u64]; omega
  simp only [execOp, fr_eval hx, Op.unary]
  simp [Op.intArith]
  rw [← e, Int.zero_sub]
end
/-- The table of the library. -/
def TabF (w : World) : Prop := ∀ j, j < 64 → w.cell? ⟨0, j, none⟩ = some (.int .u8 ((Lib.deBruijn64tab.getD j 0 : Nat) : Int))
instance : ArT Tryd.prog 219 64 5 1 := arT (by kernel_rfl) (by kernel_rfl)
theorem tz_core (M : Nat → Prop) (n s p q r k : Nat) (w : World) (h0 : 0 < n) (hn : n < 18446744073709551616) (hs : 18446744073709551616 - n = s)
    (hand : IntKind.u64.wrap (((BitVec.ofInt IntKind.u64.bits (n : Int) &&& BitVec.ofInt IntKind.u64.bits (s : Int)).toNat : Nat) : Int) = (p : Int)) (hmul : IntKind.u64.wrap ((p : Int) * 285870213051353865) = (q : Int))
    (hidx : (((q : Int).toNat >>> (58 : Int).toNat : Nat) : Int) = (r : Int)) (hr : r < 64) (hk : k < 64) (hT : Stab w M fun w => w.cell? ⟨0, r, none⟩ = some (.int .u8 (k : Int))) :
    Ret Tryd.prog 134 [.int .u64 n] w fun v _ => v = .int .i64 (k : Int) := by
  refine enter (M := M) (F := [fun w => w.cell? ⟨0, r, none⟩ = some (.int .u8 (k : Int))]) Tryd.func134 rfl rfl rfl (by simpa using hT) fun H => ?_
  have hcell := (H.fact _ mem_auto).now
  repeat' (first | (apply l_rd; exact rd_go; rfl) | (apply q_rd; exact rd_go; rfl) | refine stp ?_ | refine bk_o rfl ?_ | refine c_true ⟨rfl, rfl⟩ ?_ | refine c_false ⟨rfl, rfl⟩ ?_ | (apply l_rdg; rfl; rfl; rfl; exact rd_go; rfl) | refine l_skip rfl rfl rfl rfl ?_ | (apply q_rdg; rfl; rfl; rfl; exact rd_go; rfl) | refine q_skip rfl rfl rfl rfl ?_ | refine c_draw H (by kernel_rfl) ?_ | (refine q_end ?_; clear H; intro _ H) | ((first | refine l_st (z_box H ?_) | refine l_st (s_alloc H rfl ?_)); clear H; intro _ _ _ H) | (refine l_st (t_build0 H rfl ?_); clear H; intro _ _ _ _ H) | (refine l_st (z_sto H ?_); clear H; intro _ H) | ((first | refine c_cond ⟨rfl, rfl⟩ ?_ ?_ | refine c_ncond ⟨rfl, rfl⟩ ?_ ?_ | refine l_split rfl rfl ?_ ?_ | refine q_split rfl rfl ?_ ?_ | refine l_nsplit rfl rfl ?_ ?_ | refine q_nsplit rfl rfl ?_ ?_) <;> intro _ <;> try (exfalso; omega)))
  apply l_rd; exact rd_neg_u64 ⟨rfl, rfl⟩ h0 hn hs; rfl
  apply l_rd; exact rd_and ⟨rfl, rfl⟩ ⟨rfl, rfl⟩ hand; rfl
  apply l_rd; exact rd_mul ⟨rfl, rfl⟩ ⟨rfl, rfl⟩ hmul; rfl
  apply l_rd; exact rd_shr64 ⟨rfl, rfl⟩ ⟨rfl, rfl⟩ (by omega) (by omega); rfl
  apply l_rd; exact rd_index_arr (b := 0) (m := r) ⟨rfl, rfl⟩ ⟨rfl, rfl⟩ hidx hr; rfl
  apply l_rd; exact rd_load_sc (v := .int .u8 (k : Int)) (a := ⟨0, r * 1, none⟩) ⟨rfl, rfl⟩ (by rw [Nat.mul_one]; exact hcell); rfl
  repeat' (first | (apply l_rd; exact rd_go; rfl) | (apply q_rd; exact rd_go; rfl) | refine stp ?_ | refine bk_o rfl ?_ | refine c_true ⟨rfl, rfl⟩ ?_ | refine c_false ⟨rfl, rfl⟩ ?_ | (apply l_rdg; rfl; rfl; rfl; exact rd_go; rfl) | refine l_skip rfl rfl rfl rfl ?_ | (apply q_rdg; rfl; rfl; rfl; exact rd_go; rfl) | refine q_skip rfl rfl rfl rfl ?_ | refine c_draw H (by kernel_rfl) ?_ | (refine q_end ?_; clear H; intro _ H) | ((first | refine l_st (z_box H ?_) | refine l_st (s_alloc H rfl ?_)); clear H; intro _ _ _ H) | (refine l_st (t_build0 H rfl ?_); clear H; intro _ _ _ _ H) | (refine l_st (z_sto H ?_); clear H; intro _ H) | ((first | refine c_cond ⟨rfl, rfl⟩ ?_ ?_ | refine c_ncond ⟨rfl, rfl⟩ ?_ ?_ | refine l_split rfl rfl ?_ ?_ | refine q_split rfl rfl ?_ ?_ | refine l_nsplit rfl rfl ?_ ?_ | refine q_nsplit rfl rfl ?_ ?_) <;> intro _ <;> try (exfalso; omega)))
  (refine ret1 H rfl rfl rfl ?_; refine iv ?_); rfl
theorem tz_hand (n p : Nat) (hn : n < 18446744073709551616) (h0 : 0 < n) (hp : p < 18446744073709551616) (hlow : n &&& (18446744073709551616 - n) = p) :
    IntKind.u64.wrap (((BitVec.ofInt IntKind.u64.bits (n : Int) &&& BitVec.ofInt IntKind.u64.bits ((18446744073709551616 - n : Nat) : Int)).toNat : Nat) : Int) = (p : Int) := by
  rw [BitVec.toNat_and]
  show IntKind.u64.wrap (((BitVec.ofInt 64 (n : Int)).toNat &&& (BitVec.ofInt 64 ((18446744073709551616 - n : Nat) : Int)).toNat : Nat) : Int) = _
  rw [u64_toNat (by omega), u64_toNat (by omega), Int.toNat_natCast, Int.toNat_natCast, hlow]
  exact u64_back hp
theorem tz_hmul (p : Nat) : IntKind.u64.wrap ((p : Int) * 285870213051353865) = ((p * 285870213051353865 % 18446744073709551616 : Nat) : Int) := by
  rw [wrap_u64]; omega
theorem tz_hidx (q : Nat) : (((q : Int).toNat >>> (58 : Int).toNat : Nat) : Int) = ((q / 288230376151711744 : Nat) : Int) := by
  have h := Nat.shiftRight_eq_div_pow q 58
  rw [Int.toNat_natCast, show (58 : Int).toNat = 58 from rfl, h]
theorem tz_any (M : Nat → Prop) (n : Nat) (w : World) (h0 : n ≠ 0) (hn : n < 18446744073709551616) (hT : Stab w M TabF) :
    Ret Tryd.prog 134 [.int .u64 n] w fun v _ => v = .int .i64 ((Lib.ctz 64 n : Nat) : Int) := by
  obtain ⟨hlow, hk⟩ := Lib.lowest_bit 64 n h0 hn
  obtain ⟨hi, htab⟩ := Lib.deBruijn64_at _ hk
  have hlt : 2 ^ Lib.ctz 64 n < 18446744073709551616 := Nat.pow_lt_pow_right (by decide) hk
  refine tz_core M n _ _ _ _ (Lib.ctz 64 n) w (by omega) hn rfl (tz_hand n _ hn (by omega) hlt hlow) (tz_hmul _) (tz_hidx _) hi hk (hT.imp fun w' h => ?_)
  have := h _ hi
  rwa [htab] at this
end Go.Proofs.YtiolpldihoghiaaDoor
