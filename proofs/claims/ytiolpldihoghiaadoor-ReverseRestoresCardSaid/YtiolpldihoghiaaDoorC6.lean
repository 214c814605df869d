/- bitmap.elements: the iterator's contract. bitmap.Extents: the contract. Sizes and lineages: the contracts. Sizes of images: the contracts. The sizes of an image: the contracts. The error of a point: the contracts. -/
import Derived.Test.YtiolpldihoghiaaDoorC5
import Derived.Test.YtiolpldihoghiaaDoorC2
namespace Go.Proofs.YtiolpldihoghiaaDoor
open Go.RowKit
set_option linter.unusedVariables false
set_option linter.unusedSimpArgs false
set_option maxHeartbeats 4000000
theorem elements_any (sz from_ : Int) (A : Option Addr) (m c : Nat) (w : World) :
    Ret Tryd.prog 95 [.agg [.int .i64 sz, .slice A m c].toArray, .int .i64 from_] w fun v w' => ∃ b4 b5, v = .func (.func 132) #[] #[lp b4 0, lp b5 0] ∧ w.heap.size ≤ b4 ∧ w.heap.size ≤ b5 ∧ b4 ≠ b5 ∧
      w'.heap[b4]? = some (.cells [.int .i64 sz, .slice A m c].toArray 65 (0, 0)) ∧ w'.heap[b5]? = some (.cells [.int .i64 from_].toArray 3 (0, 0)) := by
  refine enter (M := fun _ => False) (F := []) Tryd.func95 rfl rfl rfl (by simp) fun H => ?_
  repeat' (first | (apply l_rd; exact rd_go; rfl) | (apply q_rd; exact rd_go; rfl) | refine stp ?_ | refine bk_o rfl ?_ | refine c_true ⟨rfl, rfl⟩ ?_ | refine c_false ⟨rfl, rfl⟩ ?_ | (apply l_rdg; rfl; rfl; rfl; exact rd_go; rfl) | refine l_skip rfl rfl rfl rfl ?_ | (apply q_rdg; rfl; rfl; rfl; exact rd_go; rfl) | refine q_skip rfl rfl rfl rfl ?_ | refine c_draw H (by kernel_rfl) ?_ | (refine q_end ?_; clear H; intro _ H) | ((first | refine l_st (z_box H ?_) | refine l_st (s_alloc H rfl ?_)); clear H; intro _ _ _ H) | (refine l_st (t_build0 H rfl ?_); clear H; intro _ _ _ _ H) | (refine l_st (z_sto H ?_); clear H; intro _ H) | ((first | refine c_cond ⟨rfl, rfl⟩ ?_ ?_ | refine c_ncond ⟨rfl, rfl⟩ ?_ ?_ | refine l_split rfl rfl ?_ ?_ | refine q_split rfl rfl ?_ ?_ | refine l_nsplit rfl rfl ?_ ?_ | refine q_nsplit rfl rfl ?_ ?_) <;> intro _ <;> try (exfalso; omega)))
  refine ret1 H rfl rfl rfl ⟨_, _, rfl, (H.loc _ (.tail _ (.head _))).1, (H.loc _ (.head _)).1, ?_, (H.loc _ (.tail _ (.head _))).2, (H.loc _ (.head _)).2⟩
  have := H.nd
  simp only [List.map_cons, List.map_nil, List.nodup_cons, List.mem_singleton] at this
  exact fun e => this.1 e.symm
abbrev Num := { x : Nat // x ≤ 4096 }
def elemsOf (b : Bm) : List Nat := if b.err = 0 then elemsTo (bitOf b.words) b.size.toNat else []
theorem exts_elems (b : Bm) : addAll (elemsOf b) = exts b := by
  unfold elemsOf exts
  by_cases h : b.err = 0
  · rw [if_pos h, if_neg (by omega), addAll_elems]
  · rw [if_neg h, if_pos h]; rfl
theorem elements_stops {w0 w : World} (M : Nat → Prop) (b : Bm) (A : Option Addr) (c b4 b5 : Nat) (hs : rng .i64 b.size) (hb : Below w0.heap.size w0 w) (h4 : w0.heap.size ≤ b4) (h5 : w0.heap.size ≤ b5) (hne : b4 ≠ b5)
    (c4 : w.heap[b4]? = some (.cells [.int .i64 b.size, .slice A b.words.length c].toArray 65 (0, 0))) (c5 : w.heap[b5]? = some (.cells [.int .i64 0].toArray 3 (0, 0)))
    (hF : Stab w0 M (Row (kInt .u64) 1 A b.words)) (hT : Stab w0 M TabF) :
    SeqStopsK Fence.wide 8 Tryd.prog 132 [lp b4 0, lp b5 0].toArray (fun x : Num => #[.int .i64 x.1]) (Kn w0.heap.size M [b4, b5]) (fun xs => xs.map Subtype.val = elemsOf b) (fun _ => True) 5000 w := by
  intro l J Jx W hW hJ hJx hY h0
  have hlt4 := (Array.getElem?_eq_some_iff.1 c4).1
  have hlt5 := (Array.getElem?_eq_some_iff.1 c5).1
  have H : Hp (noHeap W) (fun k => M k ∨ w0.heap.size ≤ k) W [⟨b4, [.int .i64 b.size, .slice A b.words.length c], 65⟩, ⟨b5, [.int .i64 0], 3⟩] [] [Row (kInt .u64) 1 A b.words, TabF] :=
    hp_iter (w0 := w0) (hb.trans (hW.mono hb.size)) (by
      intro l hl
      rcases List.mem_cons.1 hl with rfl | hl
      · exact ⟨h4, (hW.block b4 hlt4).trans c4⟩
      · obtain rfl := List.mem_singleton.1 hl
        exact ⟨h5, (hW.block b5 hlt5).trans c5⟩) (by simpa using hne) (by simpa using ⟨hF, hT⟩)
  have hsize0 : (noHeap W).heap.size = 0 := rfl
  generalize noHeap W = wn at H hsize0
  have e0 : #[Value.func (.yield l) #[] #[]] ++ [lp b4 0, lp b5 0].toArray = [.func (.yield l) #[] #[], lp b4 0, lp b5 0].toArray := by simp
  rw [e0]
  refine enterI Tryd.func132 rfl rfl rfl ?_
  repeat' (first | (apply l_rd; exact rd_go; rfl) | (apply q_rd; exact rd_go; rfl) | refine stp ?_ | refine bk_o rfl ?_ | refine c_true ⟨rfl, rfl⟩ ?_ | refine c_false ⟨rfl, rfl⟩ ?_ | (apply l_rdg; rfl; rfl; rfl; exact rd_go; rfl) | refine l_skip rfl rfl rfl rfl ?_ | (apply q_rdg; rfl; rfl; rfl; exact rd_go; rfl) | refine q_skip rfl rfl rfl rfl ?_ | refine c_draw H (by kernel_rfl) ?_ | (refine q_end ?_; clear H; intro _ H) | ((first | refine l_st (z_box H ?_) | refine l_st (s_alloc H rfl ?_)); clear H; intro _ _ _ H) | (refine l_st (t_build0 H rfl ?_); clear H; intro _ _ _ _ H) | (refine l_st (z_sto H ?_); clear H; intro _ H) | ((first | refine c_cond ⟨rfl, rfl⟩ ?_ ?_ | refine c_ncond ⟨rfl, rfl⟩ ?_ ?_ | refine l_split rfl rfl ?_ ?_ | refine q_split rfl rfl ?_ ?_ | refine l_nsplit rfl rfl ?_ ?_ | refine q_nsplit rfl rfl ?_ ?_) <;> intro _ <;> try (exfalso; omega)) | refine i_region rfl ?_ | refine i_true ⟨rfl, rfl⟩ ?_ | refine i_false ⟨rfl, rfl⟩ ?_ | ((first | refine i_cond ⟨rfl, rfl⟩ ?_ ?_ | refine i_ncond ⟨rfl, rfl⟩ ?_ ?_) <;> intro _ <;> try (exfalso; omega)) | (refine i_draw H (by kernel_rfl) rfl ?_))
  refine l_st (k_call evs_auto H (bCheck_any _ b A c _ hs (H.fact _ mem_auto)) rfl ?_)
  rintro _ w1 rfl hb1 H1
  have hj1 := hJ _ _ _ none h0 (Below.grown' hb1 none) (by simp)
  clear H; have H := H1; clear H1
  repeat' (first | (apply l_rd; exact rd_go; rfl) | (apply q_rd; exact rd_go; rfl) | refine stp ?_ | refine bk_o rfl ?_ | refine c_true ⟨rfl, rfl⟩ ?_ | refine c_false ⟨rfl, rfl⟩ ?_ | (apply l_rdg; rfl; rfl; rfl; exact rd_go; rfl) | refine l_skip rfl rfl rfl rfl ?_ | (apply q_rdg; rfl; rfl; rfl; exact rd_go; rfl) | refine q_skip rfl rfl rfl rfl ?_ | refine c_draw H (by kernel_rfl) ?_ | (refine q_end ?_; clear H; intro _ H) | ((first | refine l_st (z_box H ?_) | refine l_st (s_alloc H rfl ?_)); clear H; intro _ _ _ H) | (refine l_st (t_build0 H rfl ?_); clear H; intro _ _ _ _ H) | (refine l_st (z_sto H ?_); clear H; intro _ H) | ((first | refine c_cond ⟨rfl, rfl⟩ ?_ ?_ | refine c_ncond ⟨rfl, rfl⟩ ?_ ?_ | refine l_split rfl rfl ?_ ?_ | refine q_split rfl rfl ?_ ?_ | refine l_nsplit rfl rfl ?_ ?_ | refine q_nsplit rfl rfl ?_ ?_) <;> intro _ <;> try (exfalso; omega)) | refine i_region rfl ?_ | refine i_true ⟨rfl, rfl⟩ ?_ | refine i_false ⟨rfl, rfl⟩ ?_ | ((first | refine i_cond ⟨rfl, rfl⟩ ?_ ?_ | refine i_ncond ⟨rfl, rfl⟩ ?_ ?_) <;> intro _ <;> try (exfalso; omega)) | (refine i_draw H (by kernel_rfl) rfl ?_))
  · have h : b.err ≠ 0 := by assumption
    exact retR rfl ⟨⟨_, rfl⟩, .inl ⟨[], by unfold elemsOf; rw [if_neg h]; rfl, hj1⟩⟩
  have h : ¬ b.err ≠ 0 := by assumption
  have herr : b.err = 0 := by omega
  obtain ⟨h3, h4', h5'⟩ := Bm.fine_len (b := b) herr
  have hnone := (Bm.err_zero herr).2.2.2
  have hr := rng_row hF
  have hel : elemsOf b = elemsTo (bitOf b.words) (64 * b.words.length) := by
    unfold elemsOf; rw [if_pos herr]
    exact elemsTo_skip (by omega) fun j q1 q2 => hnone j q1 q2
  refine i_loopk [12] [0, 1, 2, 10, 11] (fun n vs w' => ∃ (i : Nat) (pre : List Num), vs = [.int .i64 i] ∧ i ≤ b.words.length ∧ n = b.words.length - i ∧ pre.map Subtype.val = elemsTo (bitOf b.words) (64 * i) ∧ J pre w' ∧
      Hp wn (fun k => M k ∨ w0.heap.size ≤ k) w' [⟨b4, [.int .i64 b.size, .slice A b.words.length c], 65⟩, ⟨b5, [.int .i64 0], 3⟩] [] [Row (kInt .u64) 1 A b.words, TabF]) _ [_, _, _, _, _] rfl ⟨0, [], rfl, Nat.zero_le _, rfl, rfl, hj1, H⟩ ?_
  clear H hj1 h0
  rintro n _ E0 w2 ⟨i, pre, rfl, hi, rfl, hpre, hj, H⟩
  by_cases hi' : i < b.words.length
  · have hxi := hr _ (List.getElem_mem hi')
    simp only [rng] at hxi
    repeat' (first | (apply l_rd; exact rd_go; rfl) | (apply q_rd; exact rd_go; rfl) | refine stp ?_ | refine bk_o rfl ?_ | refine c_true ⟨rfl, rfl⟩ ?_ | refine c_false ⟨rfl, rfl⟩ ?_ | (apply l_rdg; rfl; rfl; rfl; exact rd_go; rfl) | refine l_skip rfl rfl rfl rfl ?_ | (apply q_rdg; rfl; rfl; rfl; exact rd_go; rfl) | refine q_skip rfl rfl rfl rfl ?_ | refine c_draw H (by kernel_rfl) ?_ | (refine q_end ?_; clear H; intro _ H) | ((first | refine l_st (z_box H ?_) | refine l_st (s_alloc H rfl ?_)); clear H; intro _ _ _ H) | (refine l_st (t_build0 H rfl ?_); clear H; intro _ _ _ _ H) | (refine l_st (z_sto H ?_); clear H; intro _ H) | ((first | refine c_cond ⟨rfl, rfl⟩ ?_ ?_ | refine c_ncond ⟨rfl, rfl⟩ ?_ ?_ | refine l_split rfl rfl ?_ ?_ | refine q_split rfl rfl ?_ ?_ | refine l_nsplit rfl rfl ?_ ?_ | refine q_nsplit rfl rfl ?_ ?_) <;> intro _ <;> try (exfalso; omega)) | refine i_region rfl ?_ | refine i_true ⟨rfl, rfl⟩ ?_ | refine i_false ⟨rfl, rfl⟩ ?_ | ((first | refine i_cond ⟨rfl, rfl⟩ ?_ ?_ | refine i_ncond ⟨rfl, rfl⟩ ?_ ?_) <;> intro _ <;> try (exfalso; omega)) | (refine i_draw H (by kernel_rfl) rfl ?_))
    refine l_st (k_call evs_auto H (mask_any _ _ _ _ (by omega) (by omega) (by omega) (by omega)) rfl ?_)
    rintro _ w3 ⟨mk, rfl, hm, hmb⟩ hb3 H3
    have hj3 := hJ _ _ _ none hj (Below.grown' hb3 none) (by simp)
    clear H hj; have H := H3; clear H3
    have hx0 : 0 ≤ b.words[i] ∧ b.words[i] < 18446744073709551616 := by omega
    have hm0 : 0 ≤ (mk : Int) ∧ (mk : Int) < 18446744073709551616 := by omega
    repeat' (first | (apply l_rd; exact rd_go; rfl) | (apply q_rd; exact rd_go; rfl) | refine stp ?_ | refine bk_o rfl ?_ | refine c_true ⟨rfl, rfl⟩ ?_ | refine c_false ⟨rfl, rfl⟩ ?_ | (apply l_rdg; rfl; rfl; rfl; exact rd_go; rfl) | refine l_skip rfl rfl rfl rfl ?_ | (apply q_rdg; rfl; rfl; rfl; exact rd_go; rfl) | refine q_skip rfl rfl rfl rfl ?_ | refine c_draw H (by kernel_rfl) ?_ | (refine q_end ?_; clear H; intro _ H) | ((first | refine l_st (z_box H ?_) | refine l_st (s_alloc H rfl ?_)); clear H; intro _ _ _ H) | (refine l_st (t_build0 H rfl ?_); clear H; intro _ _ _ _ H) | (refine l_st (z_sto H ?_); clear H; intro _ H) | ((first | refine c_cond ⟨rfl, rfl⟩ ?_ ?_ | refine c_ncond ⟨rfl, rfl⟩ ?_ ?_ | refine l_split rfl rfl ?_ ?_ | refine q_split rfl rfl ?_ ?_ | refine l_nsplit rfl rfl ?_ ?_ | refine q_nsplit rfl rfl ?_ ?_) <;> intro _ <;> try (exfalso; omega)) | refine i_region rfl ?_ | refine i_true ⟨rfl, rfl⟩ ?_ | refine i_false ⟨rfl, rfl⟩ ?_ | ((first | refine i_cond ⟨rfl, rfl⟩ ?_ ?_ | refine i_ncond ⟨rfl, rfl⟩ ?_ ?_) <;> intro _ <;> try (exfalso; omega)) | (refine i_draw H (by kernel_rfl) rfl ?_))
    refine i_loopk [5] [0, 1, 2, 4, 10, 11, 12] (fun n vs w' => ∃ (t x : Nat) (pre : List Num), vs = [.int .u64 (x : Int)] ∧ t ≤ 64 ∧ n = 64 - t ∧ x < 18446744073709551616 ∧ (∀ j, j < 64 → x.testBit j = (decide (t ≤ j) && bitOf b.words (64 * i + j))) ∧ pre.map Subtype.val = elemsTo (bitOf b.words) (64 * i + t) ∧ J pre w' ∧
        Hp wn (fun k => M k ∨ w0.heap.size ≤ k) w' [⟨b4, [.int .i64 b.size, .slice A b.words.length c], 65⟩, ⟨b5, [.int .i64 0], 3⟩] [] [Row (kInt .u64) 1 A b.words, TabF]) _ [_, _, _, _, _, _, _] rfl
        ⟨0, _, pre, rfl, by omega, rfl, Nat.lt_of_le_of_lt Nat.and_le_left (by omega), fun j hj => ?_, hpre, hj3, H⟩ ?_
    · rw [Nat.testBit_and, at_bit hi' hj, Int.toNat_natCast]
      simp only [Nat.zero_le, decide_true, Bool.true_and]
      by_cases hsz : 64 * (i : Int) + j < b.size
      · rw [(hmb j hj).2 ⟨by omega, hsz⟩, Bool.and_true]
      · rw [hnone (64 * i + j) (by omega) (by omega), Bool.false_and]
    clear H hj3 hmb hm hm0
    rintro n _ E1 w4 ⟨t, x, pre2, rfl, ht, rfl, hx, hbits, hpre2, hj, H⟩
    refine i_seq ?_
    refine i_seq ?_
    refine i_region rfl ?_
    repeat' (first | (apply l_rd; exact rd_go; rfl) | (apply q_rd; exact rd_go; rfl) | refine stp ?_ | refine bk_o rfl ?_ | refine c_true ⟨rfl, rfl⟩ ?_ | refine c_false ⟨rfl, rfl⟩ ?_ | (apply l_rdg; rfl; rfl; rfl; exact rd_go; rfl) | refine l_skip rfl rfl rfl rfl ?_ | (apply q_rdg; rfl; rfl; rfl; exact rd_go; rfl) | refine q_skip rfl rfl rfl rfl ?_ | refine c_draw H (by kernel_rfl) ?_ | (refine q_end ?_; clear H; intro _ H) | ((first | refine l_st (z_box H ?_) | refine l_st (s_alloc H rfl ?_)); clear H; intro _ _ _ H) | (refine l_st (t_build0 H rfl ?_); clear H; intro _ _ _ _ H) | (refine l_st (z_sto H ?_); clear H; intro _ H) | ((first | refine c_cond ⟨rfl, rfl⟩ ?_ ?_ | refine c_ncond ⟨rfl, rfl⟩ ?_ ?_ | refine l_split rfl rfl ?_ ?_ | refine q_split rfl rfl ?_ ?_ | refine l_nsplit rfl rfl ?_ ?_ | refine q_nsplit rfl rfl ?_ ?_) <;> intro _ <;> try (exfalso; omega)))
    try refine ti_n ?_
    refine i_cond ⟨rfl, rfl⟩ (fun hx1 => ?_) (fun hx1 => ?_)
    · have hne0 : x ≠ 0 := by omega
      have hk1 := ctz_set hne0 hx
      have hk2 := fun j => ctz_low (j := j) hne0 hx
      have hk64 : Lib.ctz 64 x < 64 := (Lib.lowest_bit 64 x hne0 hx).2
      have hcl := clear_low hne0 hx
      have htz := fun (M1 : Nat → Prop) (w1 : World) (hT : Stab w1 M1 TabF) => tz_any M1 x w1 hne0 hx hT
      generalize Lib.ctz 64 x = k at *
      have htk : t ≤ k ∧ bitOf b.words (64 * i + k) = true := by
        rw [hbits k hk64, Bool.and_eq_true, decide_eq_true_iff] at hk1; exact hk1
      have hskip : elemsTo (bitOf b.words) (64 * i + t) = elemsTo (bitOf b.words) (64 * i + k) := elemsTo_skip (by omega) fun j q1 q2 => by
        have := hk2 (j - 64 * i) (by omega)
        rw [hbits _ (by omega), decide_eq_true (by omega), Bool.true_and] at this
        rwa [show 64 * i + (j - 64 * i) = j from by omega] at this
      refine i_skip ?_
      try refine ti_n ?_
      refine i_block ?_
      refine i_seq ?_
      refine i_seq ?_
      refine i_split 6 rfl ?_
      repeat' (first | (apply l_rd; exact rd_go; rfl) | (apply q_rd; exact rd_go; rfl) | refine stp ?_ | refine bk_o rfl ?_ | refine c_true ⟨rfl, rfl⟩ ?_ | refine c_false ⟨rfl, rfl⟩ ?_ | (apply l_rdg; rfl; rfl; rfl; exact rd_go; rfl) | refine l_skip rfl rfl rfl rfl ?_ | (apply q_rdg; rfl; rfl; rfl; exact rd_go; rfl) | refine q_skip rfl rfl rfl rfl ?_ | refine c_draw H (by kernel_rfl) ?_ | (refine q_end ?_; clear H; intro _ H) | ((first | refine l_st (z_box H ?_) | refine l_st (s_alloc H rfl ?_)); clear H; intro _ _ _ H) | (refine l_st (t_build0 H rfl ?_); clear H; intro _ _ _ _ H) | (refine l_st (z_sto H ?_); clear H; intro _ H) | ((first | refine c_cond ⟨rfl, rfl⟩ ?_ ?_ | refine c_ncond ⟨rfl, rfl⟩ ?_ ?_ | refine l_split rfl rfl ?_ ?_ | refine q_split rfl rfl ?_ ?_ | refine l_nsplit rfl rfl ?_ ?_ | refine q_nsplit rfl rfl ?_ ?_) <;> intro _ <;> try (exfalso; omega)))
      refine l_st (k_call evs_auto H (htz _ _ (H.fact TabF mem_auto)) rfl ?_)
      rintro _ w5 rfl hb5 H5
      have hj5 := hJ _ _ _ none hj (Below.grown' hb5 none) (by simp)
      clear H hj; have H := H5; clear H5
      repeat' (first | (apply l_rd; exact rd_go; rfl) | (apply q_rd; exact rd_go; rfl) | refine stp ?_ | refine bk_o rfl ?_ | refine c_true ⟨rfl, rfl⟩ ?_ | refine c_false ⟨rfl, rfl⟩ ?_ | (apply l_rdg; rfl; rfl; rfl; exact rd_go; rfl) | refine l_skip rfl rfl rfl rfl ?_ | (apply q_rdg; rfl; rfl; rfl; exact rd_go; rfl) | refine q_skip rfl rfl rfl rfl ?_ | refine c_draw H (by kernel_rfl) ?_ | (refine q_end ?_; clear H; intro _ H) | ((first | refine l_st (z_box H ?_) | refine l_st (s_alloc H rfl ?_)); clear H; intro _ _ _ H) | (refine l_st (t_build0 H rfl ?_); clear H; intro _ _ _ _ H) | (refine l_st (z_sto H ?_); clear H; intro _ H) | ((first | refine c_cond ⟨rfl, rfl⟩ ?_ ?_ | refine c_ncond ⟨rfl, rfl⟩ ?_ ?_ | refine l_split rfl rfl ?_ ?_ | refine q_split rfl rfl ?_ ?_ | refine l_nsplit rfl rfl ?_ ?_ | refine q_nsplit rfl rfl ?_ ?_) <;> intro _ <;> try (exfalso; omega)))
      try refine l_nil ?_
      refine sp_n ?_
      have hlen : pre2.length < 5000 := by
        have := elemsTo_len (bitOf b.words) (64 * i + t)
        rw [← hpre2, List.length_map] at this
        omega
      have hsk : i * 64 + k ≤ 4096 := by
        apply Classical.byContradiction; intro hgt
        have := hnone (64 * i + k) (by omega) (by omega)
        rw [htk.2] at this; cases this
      have hy := hY pre2 ⟨i * 64 + k, hsk⟩ w5 hj5 hlen
      dsimp only at hy
      rw [show ((i * 64 + k : Nat) : Int) = (i : Int) * 64 + k from by omega] at hy
      refine y_yield (l := l) ⟨rfl, rfl⟩ evs_auto hy rfl ?_
      rintro e w6 (⟨rfl, hj6, hkn⟩ | ⟨rfl, hjx⟩)
      · refine ⟨_, rfl, y_list rfl ?_⟩
        have H6 := Hp.iter (M := M) H hsize0 hkn
        clear H; have H := H6; clear H6
        repeat' (first | (apply l_rd; exact rd_go; rfl) | (apply q_rd; exact rd_go; rfl) | refine stp ?_ | refine bk_o rfl ?_ | refine c_true ⟨rfl, rfl⟩ ?_ | refine c_false ⟨rfl, rfl⟩ ?_ | (apply l_rdg; rfl; rfl; rfl; exact rd_go; rfl) | refine l_skip rfl rfl rfl rfl ?_ | (apply q_rdg; rfl; rfl; rfl; exact rd_go; rfl) | refine q_skip rfl rfl rfl rfl ?_ | refine c_draw H (by kernel_rfl) ?_ | (refine q_end ?_; clear H; intro _ H) | ((first | refine l_st (z_box H ?_) | refine l_st (s_alloc H rfl ?_)); clear H; intro _ _ _ H) | (refine l_st (t_build0 H rfl ?_); clear H; intro _ _ _ _ H) | (refine l_st (z_sto H ?_); clear H; intro _ H) | ((first | refine c_cond ⟨rfl, rfl⟩ ?_ ?_ | refine c_ncond ⟨rfl, rfl⟩ ?_ ?_ | refine l_split rfl rfl ?_ ?_ | refine q_split rfl rfl ?_ ?_ | refine l_nsplit rfl rfl ?_ ?_ | refine q_nsplit rfl rfl ?_ ?_) <;> intro _ <;> try (exfalso; omega)) | refine i_region rfl ?_ | refine i_true ⟨rfl, rfl⟩ ?_ | refine i_false ⟨rfl, rfl⟩ ?_ | ((first | refine i_cond ⟨rfl, rfl⟩ ?_ ?_ | refine i_ncond ⟨rfl, rfl⟩ ?_ ?_) <;> intro _ <;> try (exfalso; omega)) | (refine i_draw H (by kernel_rfl) rfl ?_))
        apply l_rd; exact rd_sub (c := ((x - 1 : Nat) : Int)) ⟨rfl, rfl⟩ ⟨rfl, rfl⟩ (by rw [wrap_u64]; omega); rfl
        have hx2 : 0 ≤ (x : Int) ∧ (x : Int) < 18446744073709551616 := by omega
        have hx3 : 0 ≤ ((x - 1 : Nat) : Int) ∧ ((x - 1 : Nat) : Int) < 18446744073709551616 := by omega
        repeat' (first | (apply l_rd; exact rd_go; rfl) | (apply q_rd; exact rd_go; rfl) | refine stp ?_ | refine bk_o rfl ?_ | refine c_true ⟨rfl, rfl⟩ ?_ | refine c_false ⟨rfl, rfl⟩ ?_ | (apply l_rdg; rfl; rfl; rfl; exact rd_go; rfl) | refine l_skip rfl rfl rfl rfl ?_ | (apply q_rdg; rfl; rfl; rfl; exact rd_go; rfl) | refine q_skip rfl rfl rfl rfl ?_ | refine c_draw H (by kernel_rfl) ?_ | (refine q_end ?_; clear H; intro _ H) | ((first | refine l_st (z_box H ?_) | refine l_st (s_alloc H rfl ?_)); clear H; intro _ _ _ H) | (refine l_st (t_build0 H rfl ?_); clear H; intro _ _ _ _ H) | (refine l_st (z_sto H ?_); clear H; intro _ H) | ((first | refine c_cond ⟨rfl, rfl⟩ ?_ ?_ | refine c_ncond ⟨rfl, rfl⟩ ?_ ?_ | refine l_split rfl rfl ?_ ?_ | refine q_split rfl rfl ?_ ?_ | refine l_nsplit rfl rfl ?_ ?_ | refine q_nsplit rfl rfl ?_ ?_) <;> intro _ <;> try (exfalso; omega)) | refine i_region rfl ?_ | refine i_true ⟨rfl, rfl⟩ ?_ | refine i_false ⟨rfl, rfl⟩ ?_ | ((first | refine i_cond ⟨rfl, rfl⟩ ?_ ?_ | refine i_ncond ⟨rfl, rfl⟩ ?_ ?_) <;> intro _ <;> try (exfalso; omega)) | (refine i_draw H (by kernel_rfl) rfl ?_))
        refine lk_n rfl (n' := 64 - (k + 1)) (by omega) ⟨k + 1, x &&& (x - 1), pre2 ++ [⟨i * 64 + k, hsk⟩], rfl, by omega, rfl, Nat.lt_of_le_of_lt Nat.and_le_left hx, fun j hj => ?_, ?_, hj6, H⟩
        · rw [hcl j, hbits j hj]
          by_cases q : j = k
          · subst q; simp; intro h; omega
          · by_cases q2 : j < k
            · have := hk2 j q2
              rw [hbits j hj] at this
              rw [this, decide_eq_false (by omega : ¬ k + 1 ≤ j)]; rfl
            · rw [decide_eq_true (by omega : t ≤ j), decide_eq_true (by omega : k + 1 ≤ j)]; simp [q]
        · rw [List.map_append, hpre2, hskip, show 64 * i + (k + 1) = 64 * i + k + 1 from rfl, elemsTo_yes htk.2]
          simp; omega
      · refine ⟨_, rfl, y_list rfl ?_⟩
        repeat' (first | (apply l_rd; exact rd_go; rfl) | (apply q_rd; exact rd_go; rfl) | refine stp ?_ | refine bk_o rfl ?_ | refine c_true ⟨rfl, rfl⟩ ?_ | refine c_false ⟨rfl, rfl⟩ ?_ | (apply l_rdg; rfl; rfl; rfl; exact rd_go; rfl) | refine l_skip rfl rfl rfl rfl ?_ | (apply q_rdg; rfl; rfl; rfl; exact rd_go; rfl) | refine q_skip rfl rfl rfl rfl ?_ | refine c_draw H (by kernel_rfl) ?_ | (refine q_end ?_; clear H; intro _ H) | ((first | refine l_st (z_box H ?_) | refine l_st (s_alloc H rfl ?_)); clear H; intro _ _ _ H) | (refine l_st (t_build0 H rfl ?_); clear H; intro _ _ _ _ H) | (refine l_st (z_sto H ?_); clear H; intro _ H) | ((first | refine c_cond ⟨rfl, rfl⟩ ?_ ?_ | refine c_ncond ⟨rfl, rfl⟩ ?_ ?_ | refine l_split rfl rfl ?_ ?_ | refine q_split rfl rfl ?_ ?_ | refine l_nsplit rfl rfl ?_ ?_ | refine q_nsplit rfl rfl ?_ ?_) <;> intro _ <;> try (exfalso; omega)) | refine i_region rfl ?_ | refine i_true ⟨rfl, rfl⟩ ?_ | refine i_false ⟨rfl, rfl⟩ ?_ | ((first | refine i_cond ⟨rfl, rfl⟩ ?_ ?_ | refine i_ncond ⟨rfl, rfl⟩ ?_ ?_) <;> intro _ <;> try (exfalso; omega)) | (refine i_draw H (by kernel_rfl) rfl ?_))
        exact retR rfl ⟨⟨_, rfl⟩, .inr ⟨_, trivial, hjx⟩⟩
    · have hx0' : x = 0 := by omega
      subst hx0'
      have hskip : elemsTo (bitOf b.words) (64 * i + t) = elemsTo (bitOf b.words) (64 * (i + 1)) := elemsTo_skip (by omega) fun j q1 q2 => by
        have := hbits (j - 64 * i) (by omega)
        rw [Nat.zero_testBit, decide_eq_true (by omega), Bool.true_and] at this
        rw [show 64 * i + (j - 64 * i) = j from by omega] at this
        exact this.symm
      repeat' (first | (apply l_rd; exact rd_go; rfl) | (apply q_rd; exact rd_go; rfl) | refine stp ?_ | refine bk_o rfl ?_ | refine c_true ⟨rfl, rfl⟩ ?_ | refine c_false ⟨rfl, rfl⟩ ?_ | (apply l_rdg; rfl; rfl; rfl; exact rd_go; rfl) | refine l_skip rfl rfl rfl rfl ?_ | (apply q_rdg; rfl; rfl; rfl; exact rd_go; rfl) | refine q_skip rfl rfl rfl rfl ?_ | refine c_draw H (by kernel_rfl) ?_ | (refine q_end ?_; clear H; intro _ H) | ((first | refine l_st (z_box H ?_) | refine l_st (s_alloc H rfl ?_)); clear H; intro _ _ _ H) | (refine l_st (t_build0 H rfl ?_); clear H; intro _ _ _ _ H) | (refine l_st (z_sto H ?_); clear H; intro _ H) | ((first | refine c_cond ⟨rfl, rfl⟩ ?_ ?_ | refine c_ncond ⟨rfl, rfl⟩ ?_ ?_ | refine l_split rfl rfl ?_ ?_ | refine q_split rfl rfl ?_ ?_ | refine l_nsplit rfl rfl ?_ ?_ | refine q_nsplit rfl rfl ?_ ?_) <;> intro _ <;> try (exfalso; omega)) | refine i_region rfl ?_ | refine i_true ⟨rfl, rfl⟩ ?_ | refine i_false ⟨rfl, rfl⟩ ?_ | ((first | refine i_cond ⟨rfl, rfl⟩ ?_ ?_ | refine i_ncond ⟨rfl, rfl⟩ ?_ ?_) <;> intro _ <;> try (exfalso; omega)) | (refine i_draw H (by kernel_rfl) rfl ?_))
      exact lk_n rfl (n' := b.words.length - (i + 1)) (by omega) ⟨i + 1, pre2, rfl, hi', rfl, by rw [hpre2, hskip], hj, H⟩
  · repeat' (first | (apply l_rd; exact rd_go; rfl) | (apply q_rd; exact rd_go; rfl) | refine stp ?_ | refine bk_o rfl ?_ | refine c_true ⟨rfl, rfl⟩ ?_ | refine c_false ⟨rfl, rfl⟩ ?_ | (apply l_rdg; rfl; rfl; rfl; exact rd_go; rfl) | refine l_skip rfl rfl rfl rfl ?_ | (apply q_rdg; rfl; rfl; rfl; exact rd_go; rfl) | refine q_skip rfl rfl rfl rfl ?_ | refine c_draw H (by kernel_rfl) ?_ | (refine q_end ?_; clear H; intro _ H) | ((first | refine l_st (z_box H ?_) | refine l_st (s_alloc H rfl ?_)); clear H; intro _ _ _ H) | (refine l_st (t_build0 H rfl ?_); clear H; intro _ _ _ _ H) | (refine l_st (z_sto H ?_); clear H; intro _ H) | ((first | refine c_cond ⟨rfl, rfl⟩ ?_ ?_ | refine c_ncond ⟨rfl, rfl⟩ ?_ ?_ | refine l_split rfl rfl ?_ ?_ | refine q_split rfl rfl ?_ ?_ | refine l_nsplit rfl rfl ?_ ?_ | refine q_nsplit rfl rfl ?_ ?_) <;> intro _ <;> try (exfalso; omega)) | refine i_region rfl ?_ | refine i_true ⟨rfl, rfl⟩ ?_ | refine i_false ⟨rfl, rfl⟩ ?_ | ((first | refine i_cond ⟨rfl, rfl⟩ ?_ ?_ | refine i_ncond ⟨rfl, rfl⟩ ?_ ?_) <;> intro _ <;> try (exfalso; omega)) | (refine i_draw H (by kernel_rfl) rfl ?_))
    have hi2 : i = b.words.length := by omega
    subst hi2
    exact retRn rfl ⟨⟨_, rfl⟩, .inl ⟨pre, by show pre.map Subtype.val = _; rw [hpre, hel], hj⟩⟩
end Go.Proofs.YtiolpldihoghiaaDoor

namespace Go.Proofs.YtiolpldihoghiaaDoor
open Go.RowKit
set_option linter.unusedVariables false
set_option linter.unusedSimpArgs false
set_option maxHeartbeats 4000000
theorem exts_B (b : Bm) : (exts b).length ≤ 4096 ∧ ∀ e ∈ exts b, 0 ≤ e.start ∧ e.start ≤ 4096 ∧ 0 ≤ e.count ∧ e.count ≤ 4096 := by
  unfold exts
  by_cases h : b.err = 0
  · rw [if_neg (by omega)]
    obtain ⟨h1, h2, _⟩ := Bm.fine_len (b := b) h
    have := extsUpto_in (bitOf b.words) b.size.toNat
    exact ⟨by have := this.1; omega, fun e he => by have := this.2 e he; omega⟩
  · rw [if_pos h]; exact ⟨by simp, by simp⟩
theorem exts_k (w : World) (b : Bm) : ∀ e ∈ exts b, kExt w e (fE e) := fun e he => by
  have := (exts_B b).2 e he
  exact ⟨rfl, by simp only [rng]; omega, by simp only [rng]; omega⟩
theorem extents_any (M : Nat → Prop) (b : Bm) (A : Option Addr) (c : Nat) (w : World) (hM : ∀ b, M b → b < w.heap.size) (hs : rng .i64 b.size) (hF : Stab w M (Row (kInt .u64) 1 A b.words)) (hT : Stab w M TabF) :
    Ret Tryd.prog 44 [.agg [.int .i64 b.size, .slice A b.words.length c].toArray] w fun v w' => Fresh kExt 103 2 M w (exts b) v w' := by
  refine enterM (M := M) (F := []) Tryd.func44 rfl rfl rfl (by simp) fun H => ?_
  repeat' (first | (apply l_rd; exact rd_go; rfl) | (apply q_rd; exact rd_go; rfl) | refine stp ?_ | refine bk_o rfl ?_ | refine c_true ⟨rfl, rfl⟩ ?_ | refine c_false ⟨rfl, rfl⟩ ?_ | (apply l_rdg; rfl; rfl; rfl; exact rd_go; rfl) | refine l_skip rfl rfl rfl rfl ?_ | (apply q_rdg; rfl; rfl; rfl; exact rd_go; rfl) | refine q_skip rfl rfl rfl rfl ?_ | refine c_draw H (by kernel_rfl) ?_ | (refine q_end ?_; clear H; intro _ H) | ((first | refine l_st (z_box H ?_) | refine l_st (s_alloc H rfl ?_)); clear H; intro _ _ _ H) | (refine l_st (t_build0 H rfl ?_); clear H; intro _ _ _ _ H) | (refine l_st (z_sto H ?_); clear H; intro _ H) | ((first | refine c_cond ⟨rfl, rfl⟩ ?_ ?_ | refine c_ncond ⟨rfl, rfl⟩ ?_ ?_ | refine l_split rfl rfl ?_ ?_ | refine q_split rfl rfl ?_ ?_ | refine l_nsplit rfl rfl ?_ ?_ | refine q_nsplit rfl rfl ?_ ?_) <;> intro _ <;> try (exfalso; omega)))
  refine l_st (k_call evs_auto H (elements_any _ _ _ _ _ _) rfl ?_)
  rintro _ w1 ⟨b4, b5, rfl, h4, h5, hne, c4, c5⟩ hb1 H1
  have hsz := H.size
  have hB : Below w.heap.size w w1 := H1.below
  have H3 := (H.addLoc2 (l := ⟨b4, [.int .i64 b.size, .slice A b.words.length c], 65⟩) (l' := ⟨b5, [.int .i64 0], 3⟩) hb1 h4 h5 (fun e => hne e.symm) c4 c5).own_nil 103 2
  have hBl := H1.below
  have q4 : w.heap.size ≤ b4 := by omega
  have q5 : w.heap.size ≤ b5 := by omega
  clear H H1; have H := H3; clear H3
  have hlt4 := (Array.getElem?_eq_some_iff.1 c4).1
  have hlt5 := (Array.getElem?_eq_some_iff.1 c5).1
  repeat' (first | (apply l_rd; exact rd_go; rfl) | (apply q_rd; exact rd_go; rfl) | refine stp ?_ | refine bk_o rfl ?_ | refine c_true ⟨rfl, rfl⟩ ?_ | refine c_false ⟨rfl, rfl⟩ ?_ | (apply l_rdg; rfl; rfl; rfl; exact rd_go; rfl) | refine l_skip rfl rfl rfl rfl ?_ | (apply q_rdg; rfl; rfl; rfl; exact rd_go; rfl) | refine q_skip rfl rfl rfl rfl ?_ | refine c_draw H (by kernel_rfl) ?_ | (refine q_end ?_; clear H; intro _ H) | ((first | refine l_st (z_box H ?_) | refine l_st (s_alloc H rfl ?_)); clear H; intro _ _ _ H) | (refine l_st (t_build0 H rfl ?_); clear H; intro _ _ _ _ H) | (refine l_st (z_sto H ?_); clear H; intro _ H) | ((first | refine c_cond ⟨rfl, rfl⟩ ?_ ?_ | refine c_ncond ⟨rfl, rfl⟩ ?_ ?_ | refine l_split rfl rfl ?_ ?_ | refine q_split rfl rfl ?_ ?_ | refine l_nsplit rfl rfl ?_ ?_ | refine q_nsplit rfl rfl ?_ ?_) <;> intro _ <;> try (exfalso; omega)))
  refine c_range1 (α := Num) (enc := fun x => .int .i64 x.1) 4
    (fun pre W => ∃ (A' : Option Addr) (c' : Nat), Hp w M W [⟨b5, [.int .i64 0], 3⟩, ⟨b4, [.int .i64 b.size, .slice A b.words.length c], 65⟩, ⟨_, [.slice A' (addAll (pre.map Subtype.val)).length c'], _⟩, ⟨_, [.int .i64 b.size, .slice A b.words.length c], _⟩]
      [⟨.slice A' (addAll (pre.map Subtype.val)).length c', 103, 2, (addAll (pre.map Subtype.val)).length, (addAll (pre.map Subtype.val)).flatMap fE⟩] [])
    rfl ⟨rfl, rfl⟩ (elements_stops (w0 := w) M b A c b4 b5 hs hBl q4 q5 hne c4 c5 hF hT) Kn.trans (fun W l o o' hl _ _ _ => Kn.putObj o' (by have := hBl.size; omega) (by simp; omega)) ?_ ⟨none, 0, H⟩ ?_ ?_ ?_
  · rintro s W W' row ⟨A', c', H⟩ hg hr
    exact ⟨A', c', H.turn hg fun r e => ⟨Nat.le_trans hBl.size (hr r e).1, (hr r e).2⟩⟩
  · intro l x W K hK
    repeat' (first | (apply l_rd; exact rd_go; rfl) | (apply q_rd; exact rd_go; rfl) | refine stp ?_ | refine bk_o rfl ?_ | refine c_true ⟨rfl, rfl⟩ ?_ | refine c_false ⟨rfl, rfl⟩ ?_ | (apply l_rdg; rfl; rfl; rfl; exact rd_go; rfl) | refine l_skip rfl rfl rfl rfl ?_ | (apply q_rdg; rfl; rfl; rfl; exact rd_go; rfl) | refine q_skip rfl rfl rfl rfl ?_ | refine c_draw H (by kernel_rfl) ?_ | (refine q_end ?_; clear H; intro _ H) | ((first | refine l_st (z_box H ?_) | refine l_st (s_alloc H rfl ?_)); clear H; intro _ _ _ H) | (refine l_st (t_build0 H rfl ?_); clear H; intro _ _ _ _ H) | (refine l_st (z_sto H ?_); clear H; intro _ H) | ((first | refine c_cond ⟨rfl, rfl⟩ ?_ ?_ | refine c_ncond ⟨rfl, rfl⟩ ?_ ?_ | refine l_split rfl rfl ?_ ?_ | refine q_split rfl rfl ?_ ?_ | refine l_nsplit rfl rfl ?_ ?_ | refine q_nsplit rfl rfl ?_ ?_) <;> intro _ <;> try (exfalso; omega)) | refine i_region rfl ?_ | refine i_true ⟨rfl, rfl⟩ ?_ | refine i_false ⟨rfl, rfl⟩ ?_ | ((first | refine i_cond ⟨rfl, rfl⟩ ?_ ?_ | refine i_ncond ⟨rfl, rfl⟩ ?_ ?_) <;> intro _ <;> try (exfalso; omega)) | (refine i_draw H (by kernel_rfl) rfl ?_))
    exact ke_n hK
  · rintro l pre x W ⟨A', c', H0⟩ hlen
    have H := H0.add (H0.keeps hM hBl.size)
    have hB := addAll_B (pre.map Subtype.val) (by simp only [List.mem_map]; rintro _ ⟨y, _, rfl⟩; exact y.2)
    rw [List.length_map] at hB
    have hx := x.2
    have hap : addAll ((pre ++ [x]).map Subtype.val) = addExt (addAll (pre.map Subtype.val)) x.1 := by
      rw [show (pre ++ [x]).map Subtype.val = pre.map Subtype.val ++ [x.1] from by simp, addAll_snoc]
    generalize addAll (pre.map Subtype.val) = lst at *
    obtain ⟨hB1, hB2⟩ := hB
    repeat' (first | (apply l_rd; exact rd_go; rfl) | (apply q_rd; exact rd_go; rfl) | refine stp ?_ | refine bk_o rfl ?_ | refine c_true ⟨rfl, rfl⟩ ?_ | refine c_false ⟨rfl, rfl⟩ ?_ | (apply l_rdg; rfl; rfl; rfl; exact rd_go; rfl) | refine l_skip rfl rfl rfl rfl ?_ | (apply q_rdg; rfl; rfl; rfl; exact rd_go; rfl) | refine q_skip rfl rfl rfl rfl ?_ | refine c_draw H (by kernel_rfl) ?_ | (refine q_end ?_; clear H; intro _ H) | ((first | refine l_st (z_box H ?_) | refine l_st (s_alloc H rfl ?_)); clear H; intro _ _ _ H) | (refine l_st (t_build0 H rfl ?_); clear H; intro _ _ _ _ H) | (refine l_st (z_sto H ?_); clear H; intro _ H) | ((first | refine c_cond ⟨rfl, rfl⟩ ?_ ?_ | refine c_ncond ⟨rfl, rfl⟩ ?_ ?_ | refine l_split rfl rfl ?_ ?_ | refine q_split rfl rfl ?_ ?_ | refine l_nsplit rfl rfl ?_ ?_ | refine q_nsplit rfl rfl ?_ ?_) <;> intro _ <;> try (exfalso; omega)) | refine i_region rfl ?_ | refine i_true ⟨rfl, rfl⟩ ?_ | refine i_false ⟨rfl, rfl⟩ ?_ | ((first | refine i_cond ⟨rfl, rfl⟩ ?_ ?_ | refine i_ncond ⟨rfl, rfl⟩ ?_ ?_) <;> intro _ <;> try (exfalso; omega)) | (refine i_draw H (by kernel_rfl) rfl ?_))
    · have hp : (lst.length : Int) > 0 := by assumption
      have hq : ((lst.length : Int) - 1).toNat < lst.length := by omega
      obtain ⟨q1, q2, q3, q4⟩ := hB2 _ (List.getElem_mem hq)
      repeat' (first | (apply l_rd; exact rd_go; rfl) | (apply q_rd; exact rd_go; rfl) | refine stp ?_ | refine bk_o rfl ?_ | refine c_true ⟨rfl, rfl⟩ ?_ | refine c_false ⟨rfl, rfl⟩ ?_ | (apply l_rdg; rfl; rfl; rfl; exact rd_go; rfl) | refine l_skip rfl rfl rfl rfl ?_ | (apply q_rdg; rfl; rfl; rfl; exact rd_go; rfl) | refine q_skip rfl rfl rfl rfl ?_ | refine c_draw H (by kernel_rfl) ?_ | (refine q_end ?_; clear H; intro _ H) | ((first | refine l_st (z_box H ?_) | refine l_st (s_alloc H rfl ?_)); clear H; intro _ _ _ H) | (refine l_st (t_build0 H rfl ?_); clear H; intro _ _ _ _ H) | (refine l_st (z_sto H ?_); clear H; intro _ H) | ((first | refine c_cond ⟨rfl, rfl⟩ ?_ ?_ | refine c_ncond ⟨rfl, rfl⟩ ?_ ?_ | refine l_split rfl rfl ?_ ?_ | refine q_split rfl rfl ?_ ?_ | refine l_nsplit rfl rfl ?_ ?_ | refine q_nsplit rfl rfl ?_ ?_) <;> intro _ <;> try (exfalso; omega)) | refine i_region rfl ?_ | refine i_true ⟨rfl, rfl⟩ ?_ | refine i_false ⟨rfl, rfl⟩ ?_ | ((first | refine i_cond ⟨rfl, rfl⟩ ?_ ?_ | refine i_ncond ⟨rfl, rfl⟩ ?_ ?_) <;> intro _ <;> try (exfalso; omega)) | (refine i_draw H (by kernel_rfl) rfl ?_))
      · have hadd := addExt_last (l := lst) (i := x.1) hq (by omega) (by assumption)
        refine l_st (t_store_flat (j := 0) (f := fE) (v := .slice _ _ _) (q := .int _ _) ⟨lst[((lst.length : Int) - 1).toNat].start, lst[((lst.length : Int) - 1).toNat].count + 1⟩ H rfl ⟨rfl, rfl⟩ ⟨rfl, rfl⟩ (fun _ => rfl) rfl hq (by decide) rfl rfl ?_)
        clear H; intro _ H
        repeat' (first | (apply l_rd; exact rd_go; rfl) | (apply q_rd; exact rd_go; rfl) | refine stp ?_ | refine bk_o rfl ?_ | refine c_true ⟨rfl, rfl⟩ ?_ | refine c_false ⟨rfl, rfl⟩ ?_ | (apply l_rdg; rfl; rfl; rfl; exact rd_go; rfl) | refine l_skip rfl rfl rfl rfl ?_ | (apply q_rdg; rfl; rfl; rfl; exact rd_go; rfl) | refine q_skip rfl rfl rfl rfl ?_ | refine c_draw H (by kernel_rfl) ?_ | (refine q_end ?_; clear H; intro _ H) | ((first | refine l_st (z_box H ?_) | refine l_st (s_alloc H rfl ?_)); clear H; intro _ _ _ H) | (refine l_st (t_build0 H rfl ?_); clear H; intro _ _ _ _ H) | (refine l_st (z_sto H ?_); clear H; intro _ H) | ((first | refine c_cond ⟨rfl, rfl⟩ ?_ ?_ | refine c_ncond ⟨rfl, rfl⟩ ?_ ?_ | refine l_split rfl rfl ?_ ?_ | refine q_split rfl rfl ?_ ?_ | refine l_nsplit rfl rfl ?_ ?_ | refine q_nsplit rfl rfl ?_ ?_) <;> intro _ <;> try (exfalso; omega)) | refine i_region rfl ?_ | refine i_true ⟨rfl, rfl⟩ ?_ | refine i_false ⟨rfl, rfl⟩ ?_ | ((first | refine i_cond ⟨rfl, rfl⟩ ?_ ?_ | refine i_ncond ⟨rfl, rfl⟩ ?_ ?_) <;> intro _ <;> try (exfalso; omega)) | (refine i_draw H (by kernel_rfl) rfl ?_))
        have hk := (H.fact _ mem_auto).now
        refine bd_n hk (H0.kn H hk.size (by simp)) ⟨A', c', ?_⟩
        rw [hap, hadd, List.length_set]; exact H.forget
      · have hadd := addExt_new (l := lst) (i := x.1) hq (by omega) (by assumption)
        refine l_appf (j := 0) (f := fE) (v := .slice _ _ _) (xs := lst) ⟨x.1, 1⟩ H rfl ⟨rfl, rfl⟩ rfl rfl rfl rfl (fun _ => ⟨rfl, rfl⟩) (by omega) rfl ?_
        clear H; intro A2 c2 _ _ H
        repeat' (first | (apply l_rd; exact rd_go; rfl) | (apply q_rd; exact rd_go; rfl) | refine stp ?_ | refine bk_o rfl ?_ | refine c_true ⟨rfl, rfl⟩ ?_ | refine c_false ⟨rfl, rfl⟩ ?_ | (apply l_rdg; rfl; rfl; rfl; exact rd_go; rfl) | refine l_skip rfl rfl rfl rfl ?_ | (apply q_rdg; rfl; rfl; rfl; exact rd_go; rfl) | refine q_skip rfl rfl rfl rfl ?_ | refine c_draw H (by kernel_rfl) ?_ | (refine q_end ?_; clear H; intro _ H) | ((first | refine l_st (z_box H ?_) | refine l_st (s_alloc H rfl ?_)); clear H; intro _ _ _ H) | (refine l_st (t_build0 H rfl ?_); clear H; intro _ _ _ _ H) | (refine l_st (z_sto H ?_); clear H; intro _ H) | ((first | refine c_cond ⟨rfl, rfl⟩ ?_ ?_ | refine c_ncond ⟨rfl, rfl⟩ ?_ ?_ | refine l_split rfl rfl ?_ ?_ | refine q_split rfl rfl ?_ ?_ | refine l_nsplit rfl rfl ?_ ?_ | refine q_nsplit rfl rfl ?_ ?_) <;> intro _ <;> try (exfalso; omega)) | refine i_region rfl ?_ | refine i_true ⟨rfl, rfl⟩ ?_ | refine i_false ⟨rfl, rfl⟩ ?_ | ((first | refine i_cond ⟨rfl, rfl⟩ ?_ ?_ | refine i_ncond ⟨rfl, rfl⟩ ?_ ?_) <;> intro _ <;> try (exfalso; omega)) | (refine i_draw H (by kernel_rfl) rfl ?_))
        have hk := (H.fact _ mem_auto).now
        refine bd_n hk (H0.kn H hk.size (by simp)) ⟨A2, c2, ?_⟩
        rw [hap, hadd]; exact H.forget
    · have hadd := addExt_nil (l := lst) (i := x.1) (by omega)
      refine l_appf (j := 0) (f := fE) (v := .slice _ _ _) (xs := lst) ⟨x.1, 1⟩ H rfl ⟨rfl, rfl⟩ rfl rfl rfl rfl (fun _ => ⟨rfl, rfl⟩) (by omega) rfl ?_
      clear H; intro A2 c2 _ _ H
      repeat' (first | (apply l_rd; exact rd_go; rfl) | (apply q_rd; exact rd_go; rfl) | refine stp ?_ | refine bk_o rfl ?_ | refine c_true ⟨rfl, rfl⟩ ?_ | refine c_false ⟨rfl, rfl⟩ ?_ | (apply l_rdg; rfl; rfl; rfl; exact rd_go; rfl) | refine l_skip rfl rfl rfl rfl ?_ | (apply q_rdg; rfl; rfl; rfl; exact rd_go; rfl) | refine q_skip rfl rfl rfl rfl ?_ | refine c_draw H (by kernel_rfl) ?_ | (refine q_end ?_; clear H; intro _ H) | ((first | refine l_st (z_box H ?_) | refine l_st (s_alloc H rfl ?_)); clear H; intro _ _ _ H) | (refine l_st (t_build0 H rfl ?_); clear H; intro _ _ _ _ H) | (refine l_st (z_sto H ?_); clear H; intro _ H) | ((first | refine c_cond ⟨rfl, rfl⟩ ?_ ?_ | refine c_ncond ⟨rfl, rfl⟩ ?_ ?_ | refine l_split rfl rfl ?_ ?_ | refine q_split rfl rfl ?_ ?_ | refine l_nsplit rfl rfl ?_ ?_ | refine q_nsplit rfl rfl ?_ ?_) <;> intro _ <;> try (exfalso; omega)) | refine i_region rfl ?_ | refine i_true ⟨rfl, rfl⟩ ?_ | refine i_false ⟨rfl, rfl⟩ ?_ | ((first | refine i_cond ⟨rfl, rfl⟩ ?_ ?_ | refine i_ncond ⟨rfl, rfl⟩ ?_ ?_) <;> intro _ <;> try (exfalso; omega)) | (refine i_draw H (by kernel_rfl) rfl ?_))
      have hk := (H.fact _ mem_auto).now
      refine bd_n hk (H0.kn H hk.size (by simp)) ⟨A2, c2, ?_⟩
      rw [hap, hadd]; exact H.forget
  · rintro D xs W hD hS ⟨A', c', H⟩ hK
    rw [hS, exts_elems] at H
    repeat' (first | (apply l_rd; exact rd_go; rfl) | (apply q_rd; exact rd_go; rfl) | refine stp ?_ | refine bk_o rfl ?_ | refine c_true ⟨rfl, rfl⟩ ?_ | refine c_false ⟨rfl, rfl⟩ ?_ | (apply l_rdg; rfl; rfl; rfl; exact rd_go; rfl) | refine l_skip rfl rfl rfl rfl ?_ | (apply q_rdg; rfl; rfl; rfl; exact rd_go; rfl) | refine q_skip rfl rfl rfl rfl ?_ | refine c_draw H (by kernel_rfl) ?_ | (refine q_end ?_; clear H; intro _ H) | ((first | refine l_st (z_box H ?_) | refine l_st (s_alloc H rfl ?_)); clear H; intro _ _ _ H) | (refine l_st (t_build0 H rfl ?_); clear H; intro _ _ _ _ H) | (refine l_st (z_sto H ?_); clear H; intro _ H) | ((first | refine c_cond ⟨rfl, rfl⟩ ?_ ?_ | refine c_ncond ⟨rfl, rfl⟩ ?_ ?_ | refine l_split rfl rfl ?_ ?_ | refine q_split rfl rfl ?_ ?_ | refine l_nsplit rfl rfl ?_ ?_ | refine q_nsplit rfl rfl ?_ ?_) <;> intro _ <;> try (exfalso; omega)))
    refine retM1 H (by have := hBl.size; omega) hK rfl rfl rfl fun w' H' => ?_
    exact (H'.add (f := Chunks kExt 2 (exts b) ((exts b).flatMap fE)) (fun w' _ _ => flat_chunks (f := fE) (fun _ => rfl) (exts_k w' b))).fresh (j := 0) rfl (List.mem_cons_self ..) rfl
end Go.Proofs.YtiolpldihoghiaaDoor

namespace Go.Proofs.YtiolpldihoghiaaDoor
open Go.RowKit
set_option linter.unusedVariables false
set_option linter.unusedSimpArgs false
set_option maxHeartbeats 4000000
theorem ca_Im1 {k : FuncId} {vs : List Value} {w1 : World} {v : Value} (h : Ret Tryd.prog k vs w1 (fun u _ => u = v) := by first | exact in_any _ _ _) : Ret Tryd.prog k vs w1 (fun u _ => u = v) := h
theorem in_any (n low : Int) (w : World) : Ret Tryd.prog 92 [.int .i64 n, .int .i64 low] w fun v _ => v = .bool (decide (low ≤ n ∧ n ≤ 1073741824)) := by
  refine enter (M := fun _ => False) (F := []) Tryd.func92 rfl rfl rfl (by simp) fun H => ?_
  repeat' (first | (apply l_rd; exact rd_go; rfl) | (apply q_rd; exact rd_go; rfl) | refine stp ?_ | refine bk_o rfl ?_ | refine c_true ⟨rfl, rfl⟩ ?_ | refine c_false ⟨rfl, rfl⟩ ?_ | (apply l_rdg; rfl; rfl; rfl; exact rd_go; rfl) | refine l_skip rfl rfl rfl rfl ?_ | (apply q_rdg; rfl; rfl; rfl; exact rd_go; rfl) | refine q_skip rfl rfl rfl rfl ?_ | refine c_draw H (by kernel_rfl) ?_ | (refine q_end ?_; clear H; intro _ H) | ((first | refine l_st (z_box H ?_) | refine l_st (s_alloc H rfl ?_)); clear H; intro _ _ _ H) | (refine l_st (t_build0 H rfl ?_); clear H; intro _ _ _ _ H) | (refine l_st (z_sto H ?_); clear H; intro _ H) | ((first | refine c_cond ⟨rfl, rfl⟩ ?_ ?_ | refine c_ncond ⟨rfl, rfl⟩ ?_ ?_ | refine l_split rfl rfl ?_ ?_ | refine q_split rfl rfl ?_ ?_ | refine l_nsplit rfl rfl ?_ ?_ | refine q_nsplit rfl rfl ?_ ?_) <;> intro _ <;> try (exfalso; omega)) | (refine l_st (k_call1 evs_auto H ca_Im1 rfl ?_); clear H; intro _ _ H) | (refine l_st (k_callg1 evs_auto rfl rfl rfl H ca_Im1 rfl ?_); clear H; intro _ _ H) | refine kq_call1 evs_auto H (fun _ H => ca_Im1) rfl ?_ | refine kq_callg1 evs_auto rfl rfl rfl H (fun _ H => ca_Im1) rfl ?_)
  all_goals (refine ret1 H rfl rfl rfl ?_; refine bv ?_; rw [Bool.eq_iff_iff]; simp only [decide_eq_true_eq, Bool.not_eq_true', decide_eq_false_iff_not, Bool.false_eq_true, Bool.not_true, Bool.not_false, eq_self, true_iff, false_iff, iff_true, iff_false, Classical.not_not]; omega)
theorem span_rng {w : World} {M : Nat → Prop} {A : Option Addr} {xs : List Span} (h : Stab w M (Row kSpan 3 A xs)) : ∀ x ∈ xs, (-9223372036854775808 ≤ x.epoch ∧ x.epoch ≤ 9223372036854775807) ∧ (-9223372036854775808 ≤ x.from_ ∧ x.from_ ≤ 9223372036854775807) ∧ (-9223372036854775808 ≤ x.to ∧ x.to ≤ 9223372036854775807) := by
  intro x hx
  obtain ⟨cs, hd⟩ := mem_row h (by decide) hx
  exact hd.now.2
theorem correct_any (M : Nat → Prop) (l : List Span) (A : Option Addr) (c : Nat) (w : World) (hF : Stab w M (Row kSpan 3 A l)) :
    Ret Tryd.prog 93 [.slice A l.length c] w fun v _ => v = .bool (decide (linOk l = true)) := by
  have hr := span_rng hF
  have hlen := hF.now.len
  refine enter (M := M) (F := [Row kSpan 3 A l]) Tryd.func93 rfl rfl rfl (by simpa using hF) fun H => ?_
  repeat' (first | (apply l_rd; exact rd_go; rfl) | (apply q_rd; exact rd_go; rfl) | refine stp ?_ | refine bk_o rfl ?_ | refine c_true ⟨rfl, rfl⟩ ?_ | refine c_false ⟨rfl, rfl⟩ ?_ | (apply l_rdg; rfl; rfl; rfl; exact rd_go; rfl) | refine l_skip rfl rfl rfl rfl ?_ | (apply q_rdg; rfl; rfl; rfl; exact rd_go; rfl) | refine q_skip rfl rfl rfl rfl ?_ | refine c_draw H (by kernel_rfl) ?_ | (refine q_end ?_; clear H; intro _ H) | ((first | refine l_st (z_box H ?_) | refine l_st (s_alloc H rfl ?_)); clear H; intro _ _ _ H) | (refine l_st (t_build0 H rfl ?_); clear H; intro _ _ _ _ H) | (refine l_st (z_sto H ?_); clear H; intro _ H) | ((first | refine c_cond ⟨rfl, rfl⟩ ?_ ?_ | refine c_ncond ⟨rfl, rfl⟩ ?_ ?_ | refine l_split rfl rfl ?_ ?_ | refine q_split rfl rfl ?_ ?_ | refine l_nsplit rfl rfl ?_ ?_ | refine q_nsplit rfl rfl ?_ ?_) <;> intro _ <;> try (exfalso; omega)) | (refine l_st (k_call1 evs_auto H ca_Im1 rfl ?_); clear H; intro _ _ H) | (refine l_st (k_callg1 evs_auto rfl rfl rfl H ca_Im1 rfl ?_); clear H; intro _ _ H) | refine kq_call1 evs_auto H (fun _ H => ca_Im1) rfl ?_ | refine kq_callg1 evs_auto rfl rfl rfl H (fun _ H => ca_Im1) rfl ?_)
  refine c_loopk [9] [7, 8, 3] (fun n vs w' => ∃ (i : Nat) (last : Span), vs = [.int .i64 i] ∧ i ≤ l.length ∧ n = l.length - i ∧ SpanIn last ∧ linGo last (l.drop i) = linOk l ∧
      Hp w M w' [⟨_, [.int .i64 last.epoch, .int .i64 last.from_, .int .i64 last.to], _⟩] [] [Row kSpan 3 A l]) _ [_, _, _] rfl ⟨0, span0, rfl, Nat.zero_le _, rfl, ⟨by decide, by decide⟩, rfl, H⟩ ?_
  clear H
  rintro n _ E0 w2 ⟨i, last, rfl, hi, rfl, hs, hg, H⟩
  obtain ⟨⟨s1, s2⟩, s3, s4⟩ := hs
  repeat' (first | (apply l_rd; exact rd_go; rfl) | (apply q_rd; exact rd_go; rfl) | refine stp ?_ | refine bk_o rfl ?_ | refine c_true ⟨rfl, rfl⟩ ?_ | refine c_false ⟨rfl, rfl⟩ ?_ | (apply l_rdg; rfl; rfl; rfl; exact rd_go; rfl) | refine l_skip rfl rfl rfl rfl ?_ | (apply q_rdg; rfl; rfl; rfl; exact rd_go; rfl) | refine q_skip rfl rfl rfl rfl ?_ | refine c_draw H (by kernel_rfl) ?_ | (refine q_end ?_; clear H; intro _ H) | ((first | refine l_st (z_box H ?_) | refine l_st (s_alloc H rfl ?_)); clear H; intro _ _ _ H) | (refine l_st (t_build0 H rfl ?_); clear H; intro _ _ _ _ H) | (refine l_st (z_sto H ?_); clear H; intro _ H) | ((first | refine c_cond ⟨rfl, rfl⟩ ?_ ?_ | refine c_ncond ⟨rfl, rfl⟩ ?_ ?_ | refine l_split rfl rfl ?_ ?_ | refine q_split rfl rfl ?_ ?_ | refine l_nsplit rfl rfl ?_ ?_ | refine q_nsplit rfl rfl ?_ ?_) <;> intro _ <;> try (exfalso; omega)) | (refine l_st (k_call1 evs_auto H ca_Im1 rfl ?_); clear H; intro _ _ H) | (refine l_st (k_callg1 evs_auto rfl rfl rfl H ca_Im1 rfl ?_); clear H; intro _ _ H) | refine kq_call1 evs_auto H (fun _ H => ca_Im1) rfl ?_ | refine kq_callg1 evs_auto rfl rfl rfl H (fun _ H => ca_Im1) rfl ?_)
  all_goals first
  | (have hi' : i < l.length := by omega
     first
     | (have hno := linGo_no (last := last) hi' (by omega)
        refine ret1 H rfl rfl rfl ?_; refine bv ?_; rw [← hg, hno]; rfl)
     | exact lk_n rfl (n' := l.length - (i + 1)) (by omega) ⟨i + 1, l[i], rfl, by omega, rfl, ⟨by omega, by omega⟩, by rw [← hg, linGo_yes hi' (by omega)], H.weak (.cons _ (List.Sublist.refl _)) (List.Sublist.refl _) (fun f hf => hf)⟩)
  | (have hi' : i = l.length := by omega
     subst hi'
     refine ret1 H rfl rfl rfl ?_; refine bv ?_; rw [← hg, List.drop_length]; rfl)
theorem rLineage_any (M : Nat → Prop) (l : List Span) (A : Option Addr) (c : Nat) (w : World) (hF : Stab w M (Row kSpan 3 A l)) :
    Ret Tryd.prog 96 [.slice A l.length c] w fun v _ => v = .bool (decide (linOk l = true)) := by
  have hr := span_rng hF
  have hlen := hF.now.len
  refine enter (M := M) (F := [Row kSpan 3 A l]) Tryd.func96 rfl rfl rfl (by simpa using hF) fun H => ?_
  repeat' (first | (apply l_rd; exact rd_go; rfl) | (apply q_rd; exact rd_go; rfl) | refine stp ?_ | refine bk_o rfl ?_ | refine c_true ⟨rfl, rfl⟩ ?_ | refine c_false ⟨rfl, rfl⟩ ?_ | (apply l_rdg; rfl; rfl; rfl; exact rd_go; rfl) | refine l_skip rfl rfl rfl rfl ?_ | (apply q_rdg; rfl; rfl; rfl; exact rd_go; rfl) | refine q_skip rfl rfl rfl rfl ?_ | refine c_draw H (by kernel_rfl) ?_ | (refine q_end ?_; clear H; intro _ H) | ((first | refine l_st (z_box H ?_) | refine l_st (s_alloc H rfl ?_)); clear H; intro _ _ _ H) | (refine l_st (t_build0 H rfl ?_); clear H; intro _ _ _ _ H) | (refine l_st (z_sto H ?_); clear H; intro _ H) | ((first | refine c_cond ⟨rfl, rfl⟩ ?_ ?_ | refine c_ncond ⟨rfl, rfl⟩ ?_ ?_ | refine l_split rfl rfl ?_ ?_ | refine q_split rfl rfl ?_ ?_ | refine l_nsplit rfl rfl ?_ ?_ | refine q_nsplit rfl rfl ?_ ?_) <;> intro _ <;> try (exfalso; omega)) | (refine l_st (k_call1 evs_auto H ca_Im1 rfl ?_); clear H; intro _ _ H) | (refine l_st (k_callg1 evs_auto rfl rfl rfl H ca_Im1 rfl ?_); clear H; intro _ _ H) | refine kq_call1 evs_auto H (fun _ H => ca_Im1) rfl ?_ | refine kq_callg1 evs_auto rfl rfl rfl H (fun _ H => ca_Im1) rfl ?_)
  refine c_loopk [3] [0] (fun n vs w' => ∃ (i : Nat) (last : Span), vs = [.int .i64 i] ∧ i ≤ l.length ∧ n = l.length - i ∧ SpanIn last ∧ linGo last (l.drop i) = linOk l ∧ prevSpan l i = last ∧
      Hp w M w' [] [] [Row kSpan 3 A l]) _ [_] rfl ⟨0, span0, rfl, Nat.zero_le _, rfl, ⟨by decide, by decide⟩, rfl, rfl, H⟩ ?_
  clear H
  rintro n _ E0 w2 ⟨i, last, rfl, hi, rfl, hs, hg, hp, H⟩
  obtain ⟨⟨s1, s2⟩, s3, s4⟩ := hs
  have hp1 : (h : 0 < i) → l[((i : Int) - 1).toNat]'(by omega) = last := fun h => by
    rw [← hp, prevSpan, if_neg (by omega), List.getElem?_eq_getElem (by omega)]
    simp only [show ((i : Int) - 1).toNat = i - 1 from by omega]; rfl
  have hp0 : i = 0 → last = span0 := fun h => by rw [← hp, h]; rfl
  by_cases hi0 : i = 0
  · have hl0 := hp0 hi0
    have z1 : last.to = 0 := by rw [hl0]; rfl
    have z2 : last.epoch = 0 := by rw [hl0]; rfl
    repeat' (first | (apply l_rd; exact rd_go; rfl) | (apply q_rd; exact rd_go; rfl) | refine stp ?_ | refine bk_o rfl ?_ | refine c_true ⟨rfl, rfl⟩ ?_ | refine c_false ⟨rfl, rfl⟩ ?_ | (apply l_rdg; rfl; rfl; rfl; exact rd_go; rfl) | refine l_skip rfl rfl rfl rfl ?_ | (apply q_rdg; rfl; rfl; rfl; exact rd_go; rfl) | refine q_skip rfl rfl rfl rfl ?_ | refine c_draw H (by kernel_rfl) ?_ | (refine q_end ?_; clear H; intro _ H) | ((first | refine l_st (z_box H ?_) | refine l_st (s_alloc H rfl ?_)); clear H; intro _ _ _ H) | (refine l_st (t_build0 H rfl ?_); clear H; intro _ _ _ _ H) | (refine l_st (z_sto H ?_); clear H; intro _ H) | ((first | refine c_cond ⟨rfl, rfl⟩ ?_ ?_ | refine c_ncond ⟨rfl, rfl⟩ ?_ ?_ | refine l_split rfl rfl ?_ ?_ | refine q_split rfl rfl ?_ ?_ | refine l_nsplit rfl rfl ?_ ?_ | refine q_nsplit rfl rfl ?_ ?_) <;> intro _ <;> try (exfalso; omega)) | (refine l_st (k_call1 evs_auto H ca_Im1 rfl ?_); clear H; intro _ _ H) | (refine l_st (k_callg1 evs_auto rfl rfl rfl H ca_Im1 rfl ?_); clear H; intro _ _ H) | refine kq_call1 evs_auto H (fun _ H => ca_Im1) rfl ?_ | refine kq_callg1 evs_auto rfl rfl rfl H (fun _ H => ca_Im1) rfl ?_)
    all_goals first
    | (have hi' : i < l.length := by omega
       first
       | (have hno := linGo_no (last := last) hi' (by omega)
          refine ret1 H rfl rfl rfl ?_; refine bv ?_; rw [← hg, hno]; rfl)
       | exact lk_n rfl (n' := l.length - (i + 1)) (by omega) ⟨i + 1, l[i], rfl, by omega, rfl, ⟨by omega, by omega⟩, by rw [← hg, linGo_yes hi' (by omega)], by rw [prevSpan, if_neg (by omega), Nat.add_sub_cancel, List.getElem?_eq_getElem hi']; rfl, H⟩)
    | (have hi' : i = l.length := by omega
       subst hi'
       refine ret1 H rfl rfl rfl ?_; refine bv ?_; rw [← hg, List.drop_length]; rfl)
  · have hl1 := hp1 (by omega)
    have z1 : (l[((i : Int) - 1).toNat]'(by omega)).to = last.to := by rw [hl1]
    have z2 : (l[((i : Int) - 1).toNat]'(by omega)).epoch = last.epoch := by rw [hl1]
    repeat' (first | (apply l_rd; exact rd_go; rfl) | (apply q_rd; exact rd_go; rfl) | refine stp ?_ | refine bk_o rfl ?_ | refine c_true ⟨rfl, rfl⟩ ?_ | refine c_false ⟨rfl, rfl⟩ ?_ | (apply l_rdg; rfl; rfl; rfl; exact rd_go; rfl) | refine l_skip rfl rfl rfl rfl ?_ | (apply q_rdg; rfl; rfl; rfl; exact rd_go; rfl) | refine q_skip rfl rfl rfl rfl ?_ | refine c_draw H (by kernel_rfl) ?_ | (refine q_end ?_; clear H; intro _ H) | ((first | refine l_st (z_box H ?_) | refine l_st (s_alloc H rfl ?_)); clear H; intro _ _ _ H) | (refine l_st (t_build0 H rfl ?_); clear H; intro _ _ _ _ H) | (refine l_st (z_sto H ?_); clear H; intro _ H) | ((first | refine c_cond ⟨rfl, rfl⟩ ?_ ?_ | refine c_ncond ⟨rfl, rfl⟩ ?_ ?_ | refine l_split rfl rfl ?_ ?_ | refine q_split rfl rfl ?_ ?_ | refine l_nsplit rfl rfl ?_ ?_ | refine q_nsplit rfl rfl ?_ ?_) <;> intro _ <;> try (exfalso; omega)) | (refine l_st (k_call1 evs_auto H ca_Im1 rfl ?_); clear H; intro _ _ H) | (refine l_st (k_callg1 evs_auto rfl rfl rfl H ca_Im1 rfl ?_); clear H; intro _ _ H) | refine kq_call1 evs_auto H (fun _ H => ca_Im1) rfl ?_ | refine kq_callg1 evs_auto rfl rfl rfl H (fun _ H => ca_Im1) rfl ?_)
    all_goals first
    | (have hi' : i < l.length := by omega
       first
       | (have hno := linGo_no (last := last) hi' (by omega)
          refine ret1 H rfl rfl rfl ?_; refine bv ?_; rw [← hg, hno]; rfl)
       | exact lk_n rfl (n' := l.length - (i + 1)) (by omega) ⟨i + 1, l[i], rfl, by omega, rfl, ⟨by omega, by omega⟩, by rw [← hg, linGo_yes hi' (by omega)], by rw [prevSpan, if_neg (by omega), Nat.add_sub_cancel, List.getElem?_eq_getElem hi']; rfl, H⟩)
    | (have hi' : i = l.length := by omega
       subst hi'
       refine ret1 H rfl rfl rfl ?_; refine bv ?_; rw [← hg, List.drop_length]; rfl)
end Go.Proofs.YtiolpldihoghiaaDoor

namespace Go.Proofs.YtiolpldihoghiaaDoor
open Go.RowKit
set_option linter.unusedVariables false
set_option linter.unusedSimpArgs false
set_option maxHeartbeats 4000000
theorem ca_Im2 {k : FuncId} {vs : List Value} {w1 : World} {v : Value} (h : Ret Tryd.prog k vs w1 (fun u _ => u = v) := by first | exact indexFunc_any p _ (by assumption) _ _ _ _ (H.fact _ mem_auto) | exact containsFunc_any _ _ (by intro n w hn; exact szBad_any n w) _ _ _ _ (H.fact _ mem_auto)) : Ret Tryd.prog k vs w1 (fun u _ => u = v) := h
/-- The first place at which p holds; -1. -/
def idxOf (p : Int → Prop) [DecidablePred p] (l : List Int) : Int := ((l.findIdx? fun x => decide (p x)).map Int.ofNat).getD (-1)
theorem idxOf_at {p : Int → Prop} [DecidablePred p] {l : List Int} {i : Nat} (h : i < l.length) (hp : p l[i]) (hn : ∀ j (hj : j < l.length), j < i → ¬ p l[j]) : idxOf p l = i := by
  unfold idxOf
  rw [List.findIdx?_eq_some_iff_getElem.2 ⟨h, by simpa using hp, fun j hj => by simpa using hn j (by omega) hj⟩]; rfl
theorem idxOf_none {p : Int → Prop} [DecidablePred p] {l : List Int} (hn : ∀ j (hj : j < l.length), ¬ p l[j]) : idxOf p l = -1 := by
  unfold idxOf
  rw [List.findIdx?_eq_none_iff.2 fun x hx => by obtain ⟨j, hj, rfl⟩ := List.mem_iff_getElem.1 hx; simpa using hn j hj]; rfl
theorem idxOf_iff {p : Int → Prop} [DecidablePred p] (l : List Int) : idxOf p l ≥ 0 ↔ ∃ n ∈ l, p n := by
  unfold idxOf
  cases h : l.findIdx? fun x => decide (p x) with
  | none =>
    rw [List.findIdx?_eq_none_iff] at h
    simp only [Option.map_none, Option.getD_none]
    constructor
    · intro h; omega
    · rintro ⟨n, hn, hp⟩; have := h n hn; simp [hp] at this
  | some i =>
    obtain ⟨h1, h2, _⟩ := List.findIdx?_eq_some_iff_getElem.1 h
    simp only [Option.map_some, Option.getD_some]
    exact ⟨fun _ => ⟨_, List.getElem_mem h1, by simpa using h2⟩, fun _ => by simp⟩
section
variable {k : FuncId} [hK : FnT Tryd.prog k] (p : Int → Prop) [DecidablePred p]
theorem indexFunc_any (M : Nat → Prop) (hk : ∀ n w, rng .i64 n → Ret Tryd.prog k [.int .i64 n] w fun v _ => v = .bool (decide (p n))) (xs : List Int) (A : Option Addr) (c : Nat) (w : World) (hF : Stab w M (Row (kInt .i64) 1 A xs)) :
    Ret Tryd.prog 157 [.slice A xs.length c, .func (.func k) #[] #[]] w fun v _ => v = .int .i64 (idxOf p xs) := by
  have hr := rng_row hF
  have hlen := hF.now.len
  refine enter (M := M) (F := [Row (kInt .i64) 1 A xs]) Tryd.func157 rfl rfl rfl (by simpa using hF) fun H => ?_
  repeat' (first | (apply l_rd; exact rd_go; rfl) | (apply q_rd; exact rd_go; rfl) | refine stp ?_ | refine bk_o rfl ?_ | refine c_true ⟨rfl, rfl⟩ ?_ | refine c_false ⟨rfl, rfl⟩ ?_ | (apply l_rdg; rfl; rfl; rfl; exact rd_go; rfl) | refine l_skip rfl rfl rfl rfl ?_ | (apply q_rdg; rfl; rfl; rfl; exact rd_go; rfl) | refine q_skip rfl rfl rfl rfl ?_ | refine c_draw H (by kernel_rfl) ?_ | (refine q_end ?_; clear H; intro _ H) | ((first | refine l_st (z_box H ?_) | refine l_st (s_alloc H rfl ?_)); clear H; intro _ _ _ H) | (refine l_st (t_build0 H rfl ?_); clear H; intro _ _ _ _ H) | (refine l_st (z_sto H ?_); clear H; intro _ H) | ((first | refine c_cond ⟨rfl, rfl⟩ ?_ ?_ | refine c_ncond ⟨rfl, rfl⟩ ?_ ?_ | refine l_split rfl rfl ?_ ?_ | refine q_split rfl rfl ?_ ?_ | refine l_nsplit rfl rfl ?_ ?_ | refine q_nsplit rfl rfl ?_ ?_) <;> intro _ <;> try (exfalso; omega)) | (refine l_st (k_call1 evs_auto H ca_Im2 rfl ?_); clear H; intro _ _ H) | (refine l_st (k_callg1 evs_auto rfl rfl rfl H ca_Im2 rfl ?_); clear H; intro _ _ H) | refine kq_call1 evs_auto H (fun _ H => ca_Im2) rfl ?_ | refine kq_callg1 evs_auto rfl rfl rfl H (fun _ H => ca_Im2) rfl ?_)
  refine c_loopk [8] [0, 1, 6, 7] (fun n vs w' => ∃ (i : Nat), vs = [.int .i64 i] ∧ i ≤ xs.length ∧ n = xs.length - i ∧ (∀ j (hj : j < xs.length), j < i → ¬ p xs[j]) ∧ Hp w M w' [] [] _) _ [_, _, _, _] rfl ⟨0, rfl, Nat.zero_le _, rfl, fun j _ hj => by omega, H⟩ ?_
  clear H
  rintro n _ E0 w2 ⟨i, rfl, hi, rfl, hn, H⟩
  repeat' (first | (apply l_rd; exact rd_go; rfl) | (apply q_rd; exact rd_go; rfl) | refine stp ?_ | refine bk_o rfl ?_ | refine c_true ⟨rfl, rfl⟩ ?_ | refine c_false ⟨rfl, rfl⟩ ?_ | (apply l_rdg; rfl; rfl; rfl; exact rd_go; rfl) | refine l_skip rfl rfl rfl rfl ?_ | (apply q_rdg; rfl; rfl; rfl; exact rd_go; rfl) | refine q_skip rfl rfl rfl rfl ?_ | refine c_draw H (by kernel_rfl) ?_ | (refine q_end ?_; clear H; intro _ H) | ((first | refine l_st (z_box H ?_) | refine l_st (s_alloc H rfl ?_)); clear H; intro _ _ _ H) | (refine l_st (t_build0 H rfl ?_); clear H; intro _ _ _ _ H) | (refine l_st (z_sto H ?_); clear H; intro _ H) | ((first | refine c_cond ⟨rfl, rfl⟩ ?_ ?_ | refine c_ncond ⟨rfl, rfl⟩ ?_ ?_ | refine l_split rfl rfl ?_ ?_ | refine q_split rfl rfl ?_ ?_ | refine l_nsplit rfl rfl ?_ ?_ | refine q_nsplit rfl rfl ?_ ?_) <;> intro _ <;> try (exfalso; omega)) | (refine l_st (k_call1 evs_auto H ca_Im2 rfl ?_); clear H; intro _ _ H) | (refine l_st (k_callg1 evs_auto rfl rfl rfl H ca_Im2 rfl ?_); clear H; intro _ _ H) | refine kq_call1 evs_auto H (fun _ H => ca_Im2) rfl ?_ | refine kq_callg1 evs_auto rfl rfl rfl H (fun _ H => ca_Im2) rfl ?_)
  · have hi' : i < xs.length := by omega
    refine l_st (k_callv0 evs_auto ⟨rfl, rfl⟩ H (hk (xs[i]'hi') _ (hr _ (List.getElem_mem _))) rfl ?_)
    clear H; rintro _ w1 rfl _ H
    repeat' (first | (apply l_rd; exact rd_go; rfl) | (apply q_rd; exact rd_go; rfl) | refine stp ?_ | refine bk_o rfl ?_ | refine c_true ⟨rfl, rfl⟩ ?_ | refine c_false ⟨rfl, rfl⟩ ?_ | (apply l_rdg; rfl; rfl; rfl; exact rd_go; rfl) | refine l_skip rfl rfl rfl rfl ?_ | (apply q_rdg; rfl; rfl; rfl; exact rd_go; rfl) | refine q_skip rfl rfl rfl rfl ?_ | refine c_draw H (by kernel_rfl) ?_ | (refine q_end ?_; clear H; intro _ H) | ((first | refine l_st (z_box H ?_) | refine l_st (s_alloc H rfl ?_)); clear H; intro _ _ _ H) | (refine l_st (t_build0 H rfl ?_); clear H; intro _ _ _ _ H) | (refine l_st (z_sto H ?_); clear H; intro _ H) | ((first | refine c_cond ⟨rfl, rfl⟩ ?_ ?_ | refine c_ncond ⟨rfl, rfl⟩ ?_ ?_ | refine l_split rfl rfl ?_ ?_ | refine q_split rfl rfl ?_ ?_ | refine l_nsplit rfl rfl ?_ ?_ | refine q_nsplit rfl rfl ?_ ?_) <;> intro _ <;> try (exfalso; omega)) | (refine l_st (k_call1 evs_auto H ca_Im2 rfl ?_); clear H; intro _ _ H) | (refine l_st (k_callg1 evs_auto rfl rfl rfl H ca_Im2 rfl ?_); clear H; intro _ _ H) | refine kq_call1 evs_auto H (fun _ H => ca_Im2) rfl ?_ | refine kq_callg1 evs_auto rfl rfl rfl H (fun _ H => ca_Im2) rfl ?_)
    · refine ret1 H rfl rfl rfl ?_
      refine iv ?_; rw [idxOf_at hi' (by assumption) hn]
    · exact lk_n rfl (n' := xs.length - (i + 1)) (by omega) ⟨i + 1, rfl, by omega, rfl, fun j hj hji => by rcases Nat.lt_succ_iff_lt_or_eq.1 hji with h | rfl; exact hn j hj h; assumption, H⟩
  · refine ret1 H rfl rfl rfl ?_
    refine iv ?_; rw [idxOf_none fun j hj => hn j hj (by omega)]
theorem containsFunc_any (M : Nat → Prop) (hk : ∀ n w, rng .i64 n → Ret Tryd.prog k [.int .i64 n] w fun v _ => v = .bool (decide (p n))) (xs : List Int) (A : Option Addr) (c : Nat) (w : World) (hF : Stab w M (Row (kInt .i64) 1 A xs)) :
    Ret Tryd.prog 140 [.slice A xs.length c, .func (.func k) #[] #[]] w fun v _ => v = .bool (decide (∃ n ∈ xs, p n)) := by
  refine enter (M := M) (F := [Row (kInt .i64) 1 A xs]) Tryd.func140 rfl rfl rfl (by simpa using hF) fun H => ?_
  repeat' (first | (apply l_rd; exact rd_go; rfl) | (apply q_rd; exact rd_go; rfl) | refine stp ?_ | refine bk_o rfl ?_ | refine c_true ⟨rfl, rfl⟩ ?_ | refine c_false ⟨rfl, rfl⟩ ?_ | (apply l_rdg; rfl; rfl; rfl; exact rd_go; rfl) | refine l_skip rfl rfl rfl rfl ?_ | (apply q_rdg; rfl; rfl; rfl; exact rd_go; rfl) | refine q_skip rfl rfl rfl rfl ?_ | refine c_draw H (by kernel_rfl) ?_ | (refine q_end ?_; clear H; intro _ H) | ((first | refine l_st (z_box H ?_) | refine l_st (s_alloc H rfl ?_)); clear H; intro _ _ _ H) | (refine l_st (t_build0 H rfl ?_); clear H; intro _ _ _ _ H) | (refine l_st (z_sto H ?_); clear H; intro _ H) | ((first | refine c_cond ⟨rfl, rfl⟩ ?_ ?_ | refine c_ncond ⟨rfl, rfl⟩ ?_ ?_ | refine l_split rfl rfl ?_ ?_ | refine q_split rfl rfl ?_ ?_ | refine l_nsplit rfl rfl ?_ ?_ | refine q_nsplit rfl rfl ?_ ?_) <;> intro _ <;> try (exfalso; omega)) | (refine l_st (k_call1 evs_auto H ca_Im2 rfl ?_); clear H; intro _ _ H) | (refine l_st (k_callg1 evs_auto rfl rfl rfl H ca_Im2 rfl ?_); clear H; intro _ _ H) | refine kq_call1 evs_auto H (fun _ H => ca_Im2) rfl ?_ | refine kq_callg1 evs_auto rfl rfl rfl H (fun _ H => ca_Im2) rfl ?_)
  refine ret1 H rfl rfl rfl ?_
  refine bv ?_
  simp only [decide_eq_decide]; exact idxOf_iff xs
end
theorem szBad_any (n : Int) (w : World) : Ret Tryd.prog 145 [.int .i64 n] w fun v _ => v = .bool (decide (¬ (1 ≤ n ∧ n ≤ 4096))) := by
  refine enter (M := fun _ => False) (F := []) Tryd.func145 rfl rfl rfl (by simp) fun H => ?_
  repeat' (first | (apply l_rd; exact rd_go; rfl) | (apply q_rd; exact rd_go; rfl) | refine stp ?_ | refine bk_o rfl ?_ | refine c_true ⟨rfl, rfl⟩ ?_ | refine c_false ⟨rfl, rfl⟩ ?_ | (apply l_rdg; rfl; rfl; rfl; exact rd_go; rfl) | refine l_skip rfl rfl rfl rfl ?_ | (apply q_rdg; rfl; rfl; rfl; exact rd_go; rfl) | refine q_skip rfl rfl rfl rfl ?_ | refine c_draw H (by kernel_rfl) ?_ | (refine q_end ?_; clear H; intro _ H) | ((first | refine l_st (z_box H ?_) | refine l_st (s_alloc H rfl ?_)); clear H; intro _ _ _ H) | (refine l_st (t_build0 H rfl ?_); clear H; intro _ _ _ _ H) | (refine l_st (z_sto H ?_); clear H; intro _ H) | ((first | refine c_cond ⟨rfl, rfl⟩ ?_ ?_ | refine c_ncond ⟨rfl, rfl⟩ ?_ ?_ | refine l_split rfl rfl ?_ ?_ | refine q_split rfl rfl ?_ ?_ | refine l_nsplit rfl rfl ?_ ?_ | refine q_nsplit rfl rfl ?_ ?_) <;> intro _ <;> try (exfalso; omega)) | (refine l_st (k_call1 evs_auto H ca_Im2 rfl ?_); clear H; intro _ _ H) | (refine l_st (k_callg1 evs_auto rfl rfl rfl H ca_Im2 rfl ?_); clear H; intro _ _ H) | refine kq_call1 evs_auto H (fun _ H => ca_Im2) rfl ?_ | refine kq_callg1 evs_auto rfl rfl rfl H (fun _ H => ca_Im2) rfl ?_)
  all_goals (refine ret1 H rfl rfl rfl ?_; refine bv ?_; rw [Bool.eq_iff_iff]; simp only [decide_eq_true_eq, Bool.not_eq_true', decide_eq_false_iff_not, Bool.false_eq_true, Bool.not_true, Bool.not_false, eq_self, true_iff, false_iff, iff_true, iff_false, Classical.not_not]; omega)
theorem checkSizes_any (M : Nat → Prop) (xs : List Int) (A : Option Addr) (c : Nat) (w : World) (hF : Stab w M (Row (kInt .i64) 1 A xs)) :
    Ret Tryd.prog 110 [.slice A xs.length c] w fun v _ => v = .int .i64 (sizesErr xs) := by
  have hlen := hF.now.len
  have hs : sizesErr xs = if xs.length < 1 ∨ 8 < xs.length then 6 else if ∃ n ∈ xs, ¬ (1 ≤ n ∧ n ≤ 4096) then 2 else 0 := by
    unfold sizesErr
    split
    · rfl
    · by_cases h : ∃ n ∈ xs, ¬ (1 ≤ n ∧ n ≤ 4096)
      · rw [if_pos h, if_neg (fun h2 => by obtain ⟨n, h3, h4⟩ := h; exact h4 (h2 n h3))]
      · rw [if_neg h, if_pos (fun n hn => Classical.byContradiction fun h2 => h ⟨n, hn, h2⟩)]
  refine enter (M := M) (F := [Row (kInt .i64) 1 A xs]) Tryd.func110 rfl rfl rfl (by simpa using hF) fun H => ?_
  repeat' (first | (apply l_rd; exact rd_go; rfl) | (apply q_rd; exact rd_go; rfl) | refine stp ?_ | refine bk_o rfl ?_ | refine c_true ⟨rfl, rfl⟩ ?_ | refine c_false ⟨rfl, rfl⟩ ?_ | (apply l_rdg; rfl; rfl; rfl; exact rd_go; rfl) | refine l_skip rfl rfl rfl rfl ?_ | (apply q_rdg; rfl; rfl; rfl; exact rd_go; rfl) | refine q_skip rfl rfl rfl rfl ?_ | refine c_draw H (by kernel_rfl) ?_ | (refine q_end ?_; clear H; intro _ H) | ((first | refine l_st (z_box H ?_) | refine l_st (s_alloc H rfl ?_)); clear H; intro _ _ _ H) | (refine l_st (t_build0 H rfl ?_); clear H; intro _ _ _ _ H) | (refine l_st (z_sto H ?_); clear H; intro _ H) | ((first | refine c_cond ⟨rfl, rfl⟩ ?_ ?_ | refine c_ncond ⟨rfl, rfl⟩ ?_ ?_ | refine l_split rfl rfl ?_ ?_ | refine q_split rfl rfl ?_ ?_ | refine l_nsplit rfl rfl ?_ ?_ | refine q_nsplit rfl rfl ?_ ?_) <;> intro _ <;> try (exfalso; omega)) | (refine l_st (k_call1 evs_auto H ca_Im2 rfl ?_); clear H; intro _ _ H) | (refine l_st (k_callg1 evs_auto rfl rfl rfl H ca_Im2 rfl ?_); clear H; intro _ _ H) | refine kq_call1 evs_auto H (fun _ H => ca_Im2) rfl ?_ | refine kq_callg1 evs_auto rfl rfl rfl H (fun _ H => ca_Im2) rfl ?_)
  · (refine ret1 H rfl rfl rfl ?_; refine iv ?_); rw [hs, if_pos (by omega)]
  · (refine ret1 H rfl rfl rfl ?_; refine iv ?_); rw [hs, if_pos (by omega)]
  · have h : ∃ n ∈ xs, ¬ (1 ≤ n ∧ n ≤ 4096) := by assumption
    (refine ret1 H rfl rfl rfl ?_; refine iv ?_); rw [hs, if_neg (by omega), if_pos h]
  · have h : ¬ ∃ n ∈ xs, ¬ (1 ≤ n ∧ n ≤ 4096) := by assumption
    (refine ret1 H rfl rfl rfl ?_; refine iv ?_); rw [hs, if_neg (by omega), if_neg h]
theorem rSizes_any (M : Nat → Prop) (xs : List Int) (A : Option Addr) (c : Nat) (w : World) (hF : Stab w M (Row (kInt .i64) 1 A xs)) :
    Ret Tryd.prog 73 [.slice A xs.length c] w fun v _ => v = .int .i64 (sizesErr xs) := by
  have hlen := hF.now.len
  have hr := rng_row hF
  refine enter (M := M) (F := [Row (kInt .i64) 1 A xs]) Tryd.func73 rfl rfl rfl (by simpa using hF) fun H => ?_
  repeat' (first | (apply l_rd; exact rd_go; rfl) | (apply q_rd; exact rd_go; rfl) | refine stp ?_ | refine bk_o rfl ?_ | refine c_true ⟨rfl, rfl⟩ ?_ | refine c_false ⟨rfl, rfl⟩ ?_ | (apply l_rdg; rfl; rfl; rfl; exact rd_go; rfl) | refine l_skip rfl rfl rfl rfl ?_ | (apply q_rdg; rfl; rfl; rfl; exact rd_go; rfl) | refine q_skip rfl rfl rfl rfl ?_ | refine c_draw H (by kernel_rfl) ?_ | (refine q_end ?_; clear H; intro _ H) | ((first | refine l_st (z_box H ?_) | refine l_st (s_alloc H rfl ?_)); clear H; intro _ _ _ H) | (refine l_st (t_build0 H rfl ?_); clear H; intro _ _ _ _ H) | (refine l_st (z_sto H ?_); clear H; intro _ H) | ((first | refine c_cond ⟨rfl, rfl⟩ ?_ ?_ | refine c_ncond ⟨rfl, rfl⟩ ?_ ?_ | refine l_split rfl rfl ?_ ?_ | refine q_split rfl rfl ?_ ?_ | refine l_nsplit rfl rfl ?_ ?_ | refine q_nsplit rfl rfl ?_ ?_) <;> intro _ <;> try (exfalso; omega)) | (refine l_st (k_call1 evs_auto H ca_Im2 rfl ?_); clear H; intro _ _ H) | (refine l_st (k_callg1 evs_auto rfl rfl rfl H ca_Im2 rfl ?_); clear H; intro _ _ H) | refine kq_call1 evs_auto H (fun _ H => ca_Im2) rfl ?_ | refine kq_callg1 evs_auto rfl rfl rfl H (fun _ H => ca_Im2) rfl ?_)
  · (refine ret1 H rfl rfl rfl ?_; refine iv ?_); unfold sizesErr; rw [if_pos (by omega)]
  · (refine ret1 H rfl rfl rfl ?_; refine iv ?_); unfold sizesErr; rw [if_pos (by omega)]
  have hl : ¬ (xs.length < 1 ∨ 8 < xs.length) := by omega
  refine c_loopk [3] [0] (fun n vs w' => ∃ (i : Nat), vs = [.int .i64 i] ∧ i ≤ xs.length ∧ n = xs.length - i ∧ (∀ j (hj : j < xs.length), j < i → 1 ≤ xs[j] ∧ xs[j] ≤ 4096) ∧ Hp w M w' [] [] _) _ [_] rfl ⟨0, rfl, Nat.zero_le _, rfl, fun j _ hj => by omega, H⟩ ?_
  clear H
  rintro n _ E0 w2 ⟨i, rfl, hi, rfl, hn, H⟩
  have bad : (hi' : i < xs.length) → ¬ (1 ≤ xs[i] ∧ xs[i] ≤ 4096) → 2 = sizesErr xs := fun hi' h => by
    unfold sizesErr; rw [if_neg hl, if_neg (fun h2 => h (h2 _ (List.getElem_mem _)))]
  repeat' (first | (apply l_rd; exact rd_go; rfl) | (apply q_rd; exact rd_go; rfl) | refine stp ?_ | refine bk_o rfl ?_ | refine c_true ⟨rfl, rfl⟩ ?_ | refine c_false ⟨rfl, rfl⟩ ?_ | (apply l_rdg; rfl; rfl; rfl; exact rd_go; rfl) | refine l_skip rfl rfl rfl rfl ?_ | (apply q_rdg; rfl; rfl; rfl; exact rd_go; rfl) | refine q_skip rfl rfl rfl rfl ?_ | refine c_draw H (by kernel_rfl) ?_ | (refine q_end ?_; clear H; intro _ H) | ((first | refine l_st (z_box H ?_) | refine l_st (s_alloc H rfl ?_)); clear H; intro _ _ _ H) | (refine l_st (t_build0 H rfl ?_); clear H; intro _ _ _ _ H) | (refine l_st (z_sto H ?_); clear H; intro _ H) | ((first | refine c_cond ⟨rfl, rfl⟩ ?_ ?_ | refine c_ncond ⟨rfl, rfl⟩ ?_ ?_ | refine l_split rfl rfl ?_ ?_ | refine q_split rfl rfl ?_ ?_ | refine l_nsplit rfl rfl ?_ ?_ | refine q_nsplit rfl rfl ?_ ?_) <;> intro _ <;> try (exfalso; omega)) | (refine l_st (k_call1 evs_auto H ca_Im2 rfl ?_); clear H; intro _ _ H) | (refine l_st (k_callg1 evs_auto rfl rfl rfl H ca_Im2 rfl ?_); clear H; intro _ _ H) | refine kq_call1 evs_auto H (fun _ H => ca_Im2) rfl ?_ | refine kq_callg1 evs_auto rfl rfl rfl H (fun _ H => ca_Im2) rfl ?_)
  · (refine ret1 H rfl rfl rfl ?_; refine iv ?_); exact bad (by omega) (by omega)
  · (refine ret1 H rfl rfl rfl ?_; refine iv ?_); exact bad (by omega) (by omega)
  · exact lk_n rfl (n' := xs.length - (i + 1)) (by omega) ⟨i + 1, rfl, by omega, rfl, fun j hj hji => by rcases Nat.lt_succ_iff_lt_or_eq.1 hji with h | rfl; exact hn j hj h; omega, H⟩
  · (refine ret1 H rfl rfl rfl ?_; refine iv ?_); unfold sizesErr; rw [if_neg hl, if_pos (fun n hn' => by obtain ⟨j, hj, rfl⟩ := List.mem_iff_getElem.1 hn'; exact hn j hj (by omega))]
end Go.Proofs.YtiolpldihoghiaaDoor

namespace Go.Proofs.YtiolpldihoghiaaDoor
open Go.RowKit
set_option linter.unusedVariables false
set_option linter.unusedSimpArgs false
set_option maxHeartbeats 4000000
theorem sizesOf_snoc {im : List (List Sec)} {i : Nat} (h : i < im.length) : sizesOf (im.take i) ++ [(im[i].length : Int)] = sizesOf (im.take (i + 1)) := by
  rw [List.take_succ_eq_append_getElem h]; unfold sizesOf; rw [List.map_append]; rfl
theorem sizesOf_rng {im : List (List Sec)} (h : ∀ v ∈ im, v.length ≤ 140737488355328) : ∀ n ∈ sizesOf im, rng .i64 n := by
  intro n hn
  simp only [sizesOf, List.mem_map] at hn
  obtain ⟨v, hv, rfl⟩ := hn
  have := h v hv
  simp only [rng]; omega
theorem vol_len {w : World} {M : Nat → Prop} {A : Option Addr} {im : List (List Sec)} (h : Stab w M (Row kVol 1 A im)) : ∀ v ∈ im, v.length ≤ 140737488355328 := by
  intro v hv
  obtain ⟨cs, hd⟩ := mem_row h (by decide) hv
  obtain ⟨A, c, _, _, _, h⟩ := hd.now
  exact h.len
/-- A row of whole numbers of one's own is handed back. -/
theorem ints_ret {w0 w : World} {M : Nat → Prop} {L : List Loc} {O : List Own} {F : List (World → Prop)} {v : Value} {k : IntKind} {e n : Nat} {xs : List Int} {j : Nat} (H : Hp w0 M w L O F) (hO : O[j]? = some ⟨v, e, 1, n, xs.map (Value.int k)⟩)
    (hr : ∀ x ∈ xs, rng k x) (hn : n = xs.length) : Fresh (kInt k) e 1 M w0 xs v w :=
  (H.add (Stab.imp (Stab.pure hr) fun w' h => chunks_ints h)).fresh (j := j) hO (List.mem_cons_self ..) hn
theorem volLen_any (A : Option Addr) (n c : Nat) (w : World) : Ret Tryd.prog 147 [.slice A n c] w fun v _ => v = .int .i64 n := by
  refine enter (M := fun _ => False) (F := []) Tryd.func147 rfl rfl rfl (by simp) fun H => ?_
  repeat' (first | (apply l_rd; exact rd_go; rfl) | (apply q_rd; exact rd_go; rfl) | refine stp ?_ | refine bk_o rfl ?_ | refine c_true ⟨rfl, rfl⟩ ?_ | refine c_false ⟨rfl, rfl⟩ ?_ | (apply l_rdg; rfl; rfl; rfl; exact rd_go; rfl) | refine l_skip rfl rfl rfl rfl ?_ | (apply q_rdg; rfl; rfl; rfl; exact rd_go; rfl) | refine q_skip rfl rfl rfl rfl ?_ | refine c_draw H (by kernel_rfl) ?_ | (refine q_end ?_; clear H; intro _ H) | ((first | refine l_st (z_box H ?_) | refine l_st (s_alloc H rfl ?_)); clear H; intro _ _ _ H) | (refine l_st (t_build0 H rfl ?_); clear H; intro _ _ _ _ H) | (refine l_st (z_sto H ?_); clear H; intro _ H) | ((first | refine c_cond ⟨rfl, rfl⟩ ?_ ?_ | refine c_ncond ⟨rfl, rfl⟩ ?_ ?_ | refine l_split rfl rfl ?_ ?_ | refine q_split rfl rfl ?_ ?_ | refine l_nsplit rfl rfl ?_ ?_ | refine q_nsplit rfl rfl ?_ ?_) <;> intro _ <;> try (exfalso; omega)))
  (refine ret1 H rfl rfl rfl ?_; refine iv ?_); rfl
theorem mappedLen_any (M : Nat → Prop) (im : List (List Sec)) (A : Option Addr) (c : Nat) (w : World) (hl : im.length ≤ 1000000) (hF : Stab w M (Row kVol 1 A im)) :
    Ret Tryd.prog 146 [.slice A im.length c, .func (.func 147) #[] #[]] w fun v w' => Fresh (kInt .i64) 3 1 M w (sizesOf im) v w' := by
  have hv := vol_len hF
  refine enter (M := M) (F := [Row kVol 1 A im]) Tryd.func146 rfl rfl rfl (by simpa using hF) fun H => ?_
  repeat' (first | (apply l_rd; exact rd_go; rfl) | (apply q_rd; exact rd_go; rfl) | refine stp ?_ | refine bk_o rfl ?_ | refine c_true ⟨rfl, rfl⟩ ?_ | refine c_false ⟨rfl, rfl⟩ ?_ | (apply l_rdg; rfl; rfl; rfl; exact rd_go; rfl) | refine l_skip rfl rfl rfl rfl ?_ | (apply q_rdg; rfl; rfl; rfl; exact rd_go; rfl) | refine q_skip rfl rfl rfl rfl ?_ | refine c_draw H (by kernel_rfl) ?_ | (refine q_end ?_; clear H; intro _ H) | ((first | refine l_st (z_box H ?_) | refine l_st (s_alloc H rfl ?_)); clear H; intro _ _ _ H) | (refine l_st (t_build0 H rfl ?_); clear H; intro _ _ _ _ H) | (refine l_st (z_sto H ?_); clear H; intro _ H) | ((first | refine c_cond ⟨rfl, rfl⟩ ?_ ?_ | refine c_ncond ⟨rfl, rfl⟩ ?_ ?_ | refine l_split rfl rfl ?_ ?_ | refine q_split rfl rfl ?_ ?_ | refine l_nsplit rfl rfl ?_ ?_ | refine q_nsplit rfl rfl ?_ ?_) <;> intro _ <;> try (exfalso; omega)))
  refine l_st (t_make0 (n := im.length) H ⟨rfl, rfl⟩ ⟨rfl, rfl⟩ rfl (by omega) rfl ?_)
  clear H; intro A1 c1 _ _ H
  repeat' (first | (apply l_rd; exact rd_go; rfl) | (apply q_rd; exact rd_go; rfl) | refine stp ?_ | refine bk_o rfl ?_ | refine c_true ⟨rfl, rfl⟩ ?_ | refine c_false ⟨rfl, rfl⟩ ?_ | (apply l_rdg; rfl; rfl; rfl; exact rd_go; rfl) | refine l_skip rfl rfl rfl rfl ?_ | (apply q_rdg; rfl; rfl; rfl; exact rd_go; rfl) | refine q_skip rfl rfl rfl rfl ?_ | refine c_draw H (by kernel_rfl) ?_ | (refine q_end ?_; clear H; intro _ H) | ((first | refine l_st (z_box H ?_) | refine l_st (s_alloc H rfl ?_)); clear H; intro _ _ _ H) | (refine l_st (t_build0 H rfl ?_); clear H; intro _ _ _ _ H) | (refine l_st (z_sto H ?_); clear H; intro _ H) | ((first | refine c_cond ⟨rfl, rfl⟩ ?_ ?_ | refine c_ncond ⟨rfl, rfl⟩ ?_ ?_ | refine l_split rfl rfl ?_ ?_ | refine q_split rfl rfl ?_ ?_ | refine l_nsplit rfl rfl ?_ ?_ | refine q_nsplit rfl rfl ?_ ?_) <;> intro _ <;> try (exfalso; omega)))
  refine c_loopk [13, 5] [1, 11, 12] (fun n vs w' => ∃ (i : Nat) (A1 : Option Addr) (c1 : Nat), vs = [.int .i64 i, .slice A1 (sizesOf (im.take i)).length c1] ∧ i ≤ im.length ∧ n = im.length - i ∧
      Hp w M w' [] [⟨.slice A1 (sizesOf (im.take i)).length c1, 3, 1, (sizesOf (im.take i)).length, (sizesOf (im.take i)).map (Value.int .i64)⟩] [Row kVol 1 A im]) _ [_, _, _] rfl ⟨0, A1, c1, rfl, Nat.zero_le _, rfl, H⟩ ?_
  clear H
  rintro n _ E0 w2 ⟨i, A1, c1, rfl, hi, rfl, H⟩
  by_cases hi' : i < im.length
  · obtain ⟨A2, c2, _, _, H1⟩ := H.openS mem_auto hi'
    clear H; have H := H1; clear H1
    repeat' (first | (apply l_rd; exact rd_go; rfl) | (apply q_rd; exact rd_go; rfl) | refine stp ?_ | refine bk_o rfl ?_ | refine c_true ⟨rfl, rfl⟩ ?_ | refine c_false ⟨rfl, rfl⟩ ?_ | (apply l_rdg; rfl; rfl; rfl; exact rd_go; rfl) | refine l_skip rfl rfl rfl rfl ?_ | (apply q_rdg; rfl; rfl; rfl; exact rd_go; rfl) | refine q_skip rfl rfl rfl rfl ?_ | refine c_draw H (by kernel_rfl) ?_ | (refine q_end ?_; clear H; intro _ H) | ((first | refine l_st (z_box H ?_) | refine l_st (s_alloc H rfl ?_)); clear H; intro _ _ _ H) | (refine l_st (t_build0 H rfl ?_); clear H; intro _ _ _ _ H) | (refine l_st (z_sto H ?_); clear H; intro _ H) | ((first | refine c_cond ⟨rfl, rfl⟩ ?_ ?_ | refine c_ncond ⟨rfl, rfl⟩ ?_ ?_ | refine l_split rfl rfl ?_ ?_ | refine q_split rfl rfl ?_ ?_ | refine l_nsplit rfl rfl ?_ ?_ | refine q_nsplit rfl rfl ?_ ?_) <;> intro _ <;> try (exfalso; omega)))
    refine l_st (k_callv0 evs_auto ⟨rfl, rfl⟩ H (volLen_any _ _ _ _) rfl ?_)
    clear H; rintro _ w1 rfl _ H
    have hls : (sizesOf (im.take i)).length = i := by simp [sizesOf]; omega
    refine l_appi (j := 0) (xs := sizesOf (im.take i)) (im[i].length : Int) H rfl rfl ⟨rfl, rfl⟩ rfl (fun _ => ⟨rfl, rfl⟩) (by omega) rfl ?_
    rw [sizesOf_snoc hi']
    clear H; intro A3 c3 _ _ H
    repeat' (first | (apply l_rd; exact rd_go; rfl) | (apply q_rd; exact rd_go; rfl) | refine stp ?_ | refine bk_o rfl ?_ | refine c_true ⟨rfl, rfl⟩ ?_ | refine c_false ⟨rfl, rfl⟩ ?_ | (apply l_rdg; rfl; rfl; rfl; exact rd_go; rfl) | refine l_skip rfl rfl rfl rfl ?_ | (apply q_rdg; rfl; rfl; rfl; exact rd_go; rfl) | refine q_skip rfl rfl rfl rfl ?_ | refine c_draw H (by kernel_rfl) ?_ | (refine q_end ?_; clear H; intro _ H) | ((first | refine l_st (z_box H ?_) | refine l_st (s_alloc H rfl ?_)); clear H; intro _ _ _ H) | (refine l_st (t_build0 H rfl ?_); clear H; intro _ _ _ _ H) | (refine l_st (z_sto H ?_); clear H; intro _ H) | ((first | refine c_cond ⟨rfl, rfl⟩ ?_ ?_ | refine c_ncond ⟨rfl, rfl⟩ ?_ ?_ | refine l_split rfl rfl ?_ ?_ | refine q_split rfl rfl ?_ ?_ | refine l_nsplit rfl rfl ?_ ?_ | refine q_nsplit rfl rfl ?_ ?_) <;> intro _ <;> try (exfalso; omega)))
    exact lk_n rfl (n' := im.length - (i + 1)) (by omega) ⟨i + 1, A3, c3, rfl, hi', rfl, H.weak (List.Sublist.refl _) (List.Sublist.refl _) (by simp)⟩
  · repeat' (first | (apply l_rd; exact rd_go; rfl) | (apply q_rd; exact rd_go; rfl) | refine stp ?_ | refine bk_o rfl ?_ | refine c_true ⟨rfl, rfl⟩ ?_ | refine c_false ⟨rfl, rfl⟩ ?_ | (apply l_rdg; rfl; rfl; rfl; exact rd_go; rfl) | refine l_skip rfl rfl rfl rfl ?_ | (apply q_rdg; rfl; rfl; rfl; exact rd_go; rfl) | refine q_skip rfl rfl rfl rfl ?_ | refine c_draw H (by kernel_rfl) ?_ | (refine q_end ?_; clear H; intro _ H) | ((first | refine l_st (z_box H ?_) | refine l_st (s_alloc H rfl ?_)); clear H; intro _ _ _ H) | (refine l_st (t_build0 H rfl ?_); clear H; intro _ _ _ _ H) | (refine l_st (z_sto H ?_); clear H; intro _ H) | ((first | refine c_cond ⟨rfl, rfl⟩ ?_ ?_ | refine c_ncond ⟨rfl, rfl⟩ ?_ ?_ | refine l_split rfl rfl ?_ ?_ | refine q_split rfl rfl ?_ ?_ | refine l_nsplit rfl rfl ?_ ?_ | refine q_nsplit rfl rfl ?_ ?_) <;> intro _ <;> try (exfalso; omega)))
    refine ret1 H rfl rfl rfl ?_
    have h : im.take i = im := List.take_of_length_le (by omega)
    rw [h] at H ⊢
    exact ints_ret (j := 0) H rfl (sizesOf_rng hv) rfl
theorem sizes_any (M : Nat → Prop) (im : List (List Sec)) (A : Option Addr) (c : Nat) (w : World) (hl : im.length ≤ 1000000) (hF : Stab w M (Row kVol 1 A im)) :
    Ret Tryd.prog 111 [.slice A im.length c] w fun v w' => Fresh (kInt .i64) 3 1 M w (sizesOf im) v w' := by
  refine enter (M := M) (F := [Row kVol 1 A im]) Tryd.func111 rfl rfl rfl (by simpa using hF) fun H => ?_
  repeat' (first | (apply l_rd; exact rd_go; rfl) | (apply q_rd; exact rd_go; rfl) | refine stp ?_ | refine bk_o rfl ?_ | refine c_true ⟨rfl, rfl⟩ ?_ | refine c_false ⟨rfl, rfl⟩ ?_ | (apply l_rdg; rfl; rfl; rfl; exact rd_go; rfl) | refine l_skip rfl rfl rfl rfl ?_ | (apply q_rdg; rfl; rfl; rfl; exact rd_go; rfl) | refine q_skip rfl rfl rfl rfl ?_ | refine c_draw H (by kernel_rfl) ?_ | (refine q_end ?_; clear H; intro _ H) | ((first | refine l_st (z_box H ?_) | refine l_st (s_alloc H rfl ?_)); clear H; intro _ _ _ H) | (refine l_st (t_build0 H rfl ?_); clear H; intro _ _ _ _ H) | (refine l_st (z_sto H ?_); clear H; intro _ H) | ((first | refine c_cond ⟨rfl, rfl⟩ ?_ ?_ | refine c_ncond ⟨rfl, rfl⟩ ?_ ?_ | refine l_split rfl rfl ?_ ?_ | refine q_split rfl rfl ?_ ?_ | refine l_nsplit rfl rfl ?_ ?_ | refine q_nsplit rfl rfl ?_ ?_) <;> intro _ <;> try (exfalso; omega)))
  refine l_st (k_call evs_auto H (mappedLen_any _ im _ _ _ hl (H.fact _ mem_auto)) rfl ?_)
  intro v w1 hf hb H1
  obtain ⟨A1, c1, cs, rfl, _, _, H2⟩ := H.take' hb hf
  obtain rfl := chunks_int (H2.fact _ (List.mem_cons_self ..)).now
  clear H H1 hf hb
  have H := H2
  clear H2
  repeat' (first | (apply l_rd; exact rd_go; rfl) | (apply q_rd; exact rd_go; rfl) | refine stp ?_ | refine bk_o rfl ?_ | refine c_true ⟨rfl, rfl⟩ ?_ | refine c_false ⟨rfl, rfl⟩ ?_ | (apply l_rdg; rfl; rfl; rfl; exact rd_go; rfl) | refine l_skip rfl rfl rfl rfl ?_ | (apply q_rdg; rfl; rfl; rfl; exact rd_go; rfl) | refine q_skip rfl rfl rfl rfl ?_ | refine c_draw H (by kernel_rfl) ?_ | (refine q_end ?_; clear H; intro _ H) | ((first | refine l_st (z_box H ?_) | refine l_st (s_alloc H rfl ?_)); clear H; intro _ _ _ H) | (refine l_st (t_build0 H rfl ?_); clear H; intro _ _ _ _ H) | (refine l_st (z_sto H ?_); clear H; intro _ H) | ((first | refine c_cond ⟨rfl, rfl⟩ ?_ ?_ | refine c_ncond ⟨rfl, rfl⟩ ?_ ?_ | refine l_split rfl rfl ?_ ?_ | refine q_split rfl rfl ?_ ?_ | refine l_nsplit rfl rfl ?_ ?_ | refine q_nsplit rfl rfl ?_ ?_) <;> intro _ <;> try (exfalso; omega)))
  exact ret1 H rfl rfl rfl (ints_ret (j := 0) H rfl (sizesOf_rng (vol_len hF)) rfl)
theorem rSizesOf_any (M : Nat → Prop) (im : List (List Sec)) (A : Option Addr) (c : Nat) (w : World) (hl : im.length ≤ 1000000) (hF : Stab w M (Row kVol 1 A im)) :
    Ret Tryd.prog 57 [.slice A im.length c] w fun v w' => Fresh (kInt .i64) 3 1 M w (sizesOf im) v w' := by
  have hv := vol_len hF
  refine enter (M := M) (F := [Row kVol 1 A im]) Tryd.func57 rfl rfl rfl (by simpa using hF) fun H => ?_
  repeat' (first | (apply l_rd; exact rd_go; rfl) | (apply q_rd; exact rd_go; rfl) | refine stp ?_ | refine bk_o rfl ?_ | refine c_true ⟨rfl, rfl⟩ ?_ | refine c_false ⟨rfl, rfl⟩ ?_ | (apply l_rdg; rfl; rfl; rfl; exact rd_go; rfl) | refine l_skip rfl rfl rfl rfl ?_ | (apply q_rdg; rfl; rfl; rfl; exact rd_go; rfl) | refine q_skip rfl rfl rfl rfl ?_ | refine c_draw H (by kernel_rfl) ?_ | (refine q_end ?_; clear H; intro _ H) | ((first | refine l_st (z_box H ?_) | refine l_st (s_alloc H rfl ?_)); clear H; intro _ _ _ H) | (refine l_st (t_build0 H rfl ?_); clear H; intro _ _ _ _ H) | (refine l_st (z_sto H ?_); clear H; intro _ H) | ((first | refine c_cond ⟨rfl, rfl⟩ ?_ ?_ | refine c_ncond ⟨rfl, rfl⟩ ?_ ?_ | refine l_split rfl rfl ?_ ?_ | refine q_split rfl rfl ?_ ?_ | refine l_nsplit rfl rfl ?_ ?_ | refine q_nsplit rfl rfl ?_ ?_) <;> intro _ <;> try (exfalso; omega)))
  have H1 := H.own_nil 3 1
  refine c_loopk [4, 3] [0] (fun n vs w' => ∃ (i : Nat) (A1 : Option Addr) (c1 : Nat), vs = [.int .i64 i, .slice A1 (sizesOf (im.take i)).length c1] ∧ i ≤ im.length ∧ n = im.length - i ∧
      Hp w M w' [] [⟨.slice A1 (sizesOf (im.take i)).length c1, 3, 1, (sizesOf (im.take i)).length, (sizesOf (im.take i)).map (Value.int .i64)⟩] [Row kVol 1 A im]) _ [_] rfl ⟨0, none, 0, rfl, Nat.zero_le _, rfl, H1⟩ ?_
  clear H H1
  rintro n _ E0 w2 ⟨i, A1, c1, rfl, hi, rfl, H⟩
  by_cases hi' : i < im.length
  · obtain ⟨A2, c2, _, _, H1⟩ := H.openS mem_auto hi'
    clear H; have H := H1; clear H1
    repeat' (first | (apply l_rd; exact rd_go; rfl) | (apply q_rd; exact rd_go; rfl) | refine stp ?_ | refine bk_o rfl ?_ | refine c_true ⟨rfl, rfl⟩ ?_ | refine c_false ⟨rfl, rfl⟩ ?_ | (apply l_rdg; rfl; rfl; rfl; exact rd_go; rfl) | refine l_skip rfl rfl rfl rfl ?_ | (apply q_rdg; rfl; rfl; rfl; exact rd_go; rfl) | refine q_skip rfl rfl rfl rfl ?_ | refine c_draw H (by kernel_rfl) ?_ | (refine q_end ?_; clear H; intro _ H) | ((first | refine l_st (z_box H ?_) | refine l_st (s_alloc H rfl ?_)); clear H; intro _ _ _ H) | (refine l_st (t_build0 H rfl ?_); clear H; intro _ _ _ _ H) | (refine l_st (z_sto H ?_); clear H; intro _ H) | ((first | refine c_cond ⟨rfl, rfl⟩ ?_ ?_ | refine c_ncond ⟨rfl, rfl⟩ ?_ ?_ | refine l_split rfl rfl ?_ ?_ | refine q_split rfl rfl ?_ ?_ | refine l_nsplit rfl rfl ?_ ?_ | refine q_nsplit rfl rfl ?_ ?_) <;> intro _ <;> try (exfalso; omega)))
    have hls : (sizesOf (im.take i)).length = i := by simp [sizesOf]; omega
    refine l_appi (j := 0) (xs := sizesOf (im.take i)) (im[i].length : Int) H rfl rfl ⟨rfl, rfl⟩ rfl (fun _ => ⟨rfl, rfl⟩) (by omega) rfl ?_
    rw [sizesOf_snoc hi']
    clear H; intro A3 c3 _ _ H
    repeat' (first | (apply l_rd; exact rd_go; rfl) | (apply q_rd; exact rd_go; rfl) | refine stp ?_ | refine bk_o rfl ?_ | refine c_true ⟨rfl, rfl⟩ ?_ | refine c_false ⟨rfl, rfl⟩ ?_ | (apply l_rdg; rfl; rfl; rfl; exact rd_go; rfl) | refine l_skip rfl rfl rfl rfl ?_ | (apply q_rdg; rfl; rfl; rfl; exact rd_go; rfl) | refine q_skip rfl rfl rfl rfl ?_ | refine c_draw H (by kernel_rfl) ?_ | (refine q_end ?_; clear H; intro _ H) | ((first | refine l_st (z_box H ?_) | refine l_st (s_alloc H rfl ?_)); clear H; intro _ _ _ H) | (refine l_st (t_build0 H rfl ?_); clear H; intro _ _ _ _ H) | (refine l_st (z_sto H ?_); clear H; intro _ H) | ((first | refine c_cond ⟨rfl, rfl⟩ ?_ ?_ | refine c_ncond ⟨rfl, rfl⟩ ?_ ?_ | refine l_split rfl rfl ?_ ?_ | refine q_split rfl rfl ?_ ?_ | refine l_nsplit rfl rfl ?_ ?_ | refine q_nsplit rfl rfl ?_ ?_) <;> intro _ <;> try (exfalso; omega)))
    exact lk_n rfl (n' := im.length - (i + 1)) (by omega) ⟨i + 1, A3, c3, rfl, hi', rfl, H.weak (List.Sublist.refl _) (List.Sublist.refl _) (by simp)⟩
  · repeat' (first | (apply l_rd; exact rd_go; rfl) | (apply q_rd; exact rd_go; rfl) | refine stp ?_ | refine bk_o rfl ?_ | refine c_true ⟨rfl, rfl⟩ ?_ | refine c_false ⟨rfl, rfl⟩ ?_ | (apply l_rdg; rfl; rfl; rfl; exact rd_go; rfl) | refine l_skip rfl rfl rfl rfl ?_ | (apply q_rdg; rfl; rfl; rfl; exact rd_go; rfl) | refine q_skip rfl rfl rfl rfl ?_ | refine c_draw H (by kernel_rfl) ?_ | (refine q_end ?_; clear H; intro _ H) | ((first | refine l_st (z_box H ?_) | refine l_st (s_alloc H rfl ?_)); clear H; intro _ _ _ H) | (refine l_st (t_build0 H rfl ?_); clear H; intro _ _ _ _ H) | (refine l_st (z_sto H ?_); clear H; intro _ H) | ((first | refine c_cond ⟨rfl, rfl⟩ ?_ ?_ | refine c_ncond ⟨rfl, rfl⟩ ?_ ?_ | refine l_split rfl rfl ?_ ?_ | refine q_split rfl rfl ?_ ?_ | refine l_nsplit rfl rfl ?_ ?_ | refine q_nsplit rfl rfl ?_ ?_) <;> intro _ <;> try (exfalso; omega)))
    refine ret1 H rfl rfl rfl ?_
    have h : im.take i = im := List.take_of_length_le (by omega)
    rw [h] at H ⊢
    exact ints_ret (j := 0) H rfl (sizesOf_rng hv) rfl
theorem imCheck_any (M : Nat → Prop) (im : List (List Sec)) (A : Option Addr) (c : Nat) (w : World) (hl : im.length ≤ 1000000) (hF : Stab w M (Row kVol 1 A im)) :
    Ret Tryd.prog 62 [.slice A im.length c] w fun v _ => v = .int .i64 (imErr im) := by
  refine enter (M := M) (F := [Row kVol 1 A im]) Tryd.func62 rfl rfl rfl (by simpa using hF) fun H => ?_
  repeat' (first | (apply l_rd; exact rd_go; rfl) | (apply q_rd; exact rd_go; rfl) | refine stp ?_ | refine bk_o rfl ?_ | refine c_true ⟨rfl, rfl⟩ ?_ | refine c_false ⟨rfl, rfl⟩ ?_ | (apply l_rdg; rfl; rfl; rfl; exact rd_go; rfl) | refine l_skip rfl rfl rfl rfl ?_ | (apply q_rdg; rfl; rfl; rfl; exact rd_go; rfl) | refine q_skip rfl rfl rfl rfl ?_ | refine c_draw H (by kernel_rfl) ?_ | (refine q_end ?_; clear H; intro _ H) | ((first | refine l_st (z_box H ?_) | refine l_st (s_alloc H rfl ?_)); clear H; intro _ _ _ H) | (refine l_st (t_build0 H rfl ?_); clear H; intro _ _ _ _ H) | (refine l_st (z_sto H ?_); clear H; intro _ H) | ((first | refine c_cond ⟨rfl, rfl⟩ ?_ ?_ | refine c_ncond ⟨rfl, rfl⟩ ?_ ?_ | refine l_split rfl rfl ?_ ?_ | refine q_split rfl rfl ?_ ?_ | refine l_nsplit rfl rfl ?_ ?_ | refine q_nsplit rfl rfl ?_ ?_) <;> intro _ <;> try (exfalso; omega)))
  refine l_st (k_call evs_auto H (sizes_any _ im _ _ _ hl (H.fact _ mem_auto)) rfl ?_)
  intro v w1 hf hb H1
  obtain ⟨A1, c1, cs, rfl, _, _, H2⟩ := H.take' hb hf
  obtain rfl := chunks_int (H2.fact _ (List.mem_cons_self ..)).now
  clear H H1 hf hb
  have H := H2
  clear H2
  refine l_st (k_call1 evs_auto H (checkSizes_any _ _ _ _ _ (H.own_row0 (j := 0) rfl (sizesOf_rng (vol_len hF)) rfl (by simp [sizesOf]; omega))) rfl ?_)
  clear H; intro _ _ H
  repeat' (first | (apply l_rd; exact rd_go; rfl) | (apply q_rd; exact rd_go; rfl) | refine stp ?_ | refine bk_o rfl ?_ | refine c_true ⟨rfl, rfl⟩ ?_ | refine c_false ⟨rfl, rfl⟩ ?_ | (apply l_rdg; rfl; rfl; rfl; exact rd_go; rfl) | refine l_skip rfl rfl rfl rfl ?_ | (apply q_rdg; rfl; rfl; rfl; exact rd_go; rfl) | refine q_skip rfl rfl rfl rfl ?_ | refine c_draw H (by kernel_rfl) ?_ | (refine q_end ?_; clear H; intro _ H) | ((first | refine l_st (z_box H ?_) | refine l_st (s_alloc H rfl ?_)); clear H; intro _ _ _ H) | (refine l_st (t_build0 H rfl ?_); clear H; intro _ _ _ _ H) | (refine l_st (z_sto H ?_); clear H; intro _ H) | ((first | refine c_cond ⟨rfl, rfl⟩ ?_ ?_ | refine c_ncond ⟨rfl, rfl⟩ ?_ ?_ | refine l_split rfl rfl ?_ ?_ | refine q_split rfl rfl ?_ ?_ | refine l_nsplit rfl rfl ?_ ?_ | refine q_nsplit rfl rfl ?_ ?_) <;> intro _ <;> try (exfalso; omega)))
  (refine ret1 H rfl rfl rfl ?_; refine iv ?_); rfl
theorem rImCheck_any (M : Nat → Prop) (im : List (List Sec)) (A : Option Addr) (c : Nat) (w : World) (hl : im.length ≤ 1000000) (hF : Stab w M (Row kVol 1 A im)) :
    Ret Tryd.prog 97 [.slice A im.length c] w fun v _ => v = .int .i64 (imErr im) := by
  refine enter (M := M) (F := [Row kVol 1 A im]) Tryd.func97 rfl rfl rfl (by simpa using hF) fun H => ?_
  repeat' (first | (apply l_rd; exact rd_go; rfl) | (apply q_rd; exact rd_go; rfl) | refine stp ?_ | refine bk_o rfl ?_ | refine c_true ⟨rfl, rfl⟩ ?_ | refine c_false ⟨rfl, rfl⟩ ?_ | (apply l_rdg; rfl; rfl; rfl; exact rd_go; rfl) | refine l_skip rfl rfl rfl rfl ?_ | (apply q_rdg; rfl; rfl; rfl; exact rd_go; rfl) | refine q_skip rfl rfl rfl rfl ?_ | refine c_draw H (by kernel_rfl) ?_ | (refine q_end ?_; clear H; intro _ H) | ((first | refine l_st (z_box H ?_) | refine l_st (s_alloc H rfl ?_)); clear H; intro _ _ _ H) | (refine l_st (t_build0 H rfl ?_); clear H; intro _ _ _ _ H) | (refine l_st (z_sto H ?_); clear H; intro _ H) | ((first | refine c_cond ⟨rfl, rfl⟩ ?_ ?_ | refine c_ncond ⟨rfl, rfl⟩ ?_ ?_ | refine l_split rfl rfl ?_ ?_ | refine q_split rfl rfl ?_ ?_ | refine l_nsplit rfl rfl ?_ ?_ | refine q_nsplit rfl rfl ?_ ?_) <;> intro _ <;> try (exfalso; omega)))
  refine l_st (k_call evs_auto H (rSizesOf_any _ im _ _ _ hl (H.fact _ mem_auto)) rfl ?_)
  intro v w1 hf hb H1
  obtain ⟨A1, c1, cs, rfl, _, _, H2⟩ := H.take' hb hf
  obtain rfl := chunks_int (H2.fact _ (List.mem_cons_self ..)).now
  clear H H1 hf hb
  have H := H2
  clear H2
  refine l_st (k_call1 evs_auto H (rSizes_any _ _ _ _ _ (H.own_row0 (j := 0) rfl (sizesOf_rng (vol_len hF)) rfl (by simp [sizesOf]; omega))) rfl ?_)
  clear H; intro _ _ H
  repeat' (first | (apply l_rd; exact rd_go; rfl) | (apply q_rd; exact rd_go; rfl) | refine stp ?_ | refine bk_o rfl ?_ | refine c_true ⟨rfl, rfl⟩ ?_ | refine c_false ⟨rfl, rfl⟩ ?_ | (apply l_rdg; rfl; rfl; rfl; exact rd_go; rfl) | refine l_skip rfl rfl rfl rfl ?_ | (apply q_rdg; rfl; rfl; rfl; exact rd_go; rfl) | refine q_skip rfl rfl rfl rfl ?_ | refine c_draw H (by kernel_rfl) ?_ | (refine q_end ?_; clear H; intro _ H) | ((first | refine l_st (z_box H ?_) | refine l_st (s_alloc H rfl ?_)); clear H; intro _ _ _ H) | (refine l_st (t_build0 H rfl ?_); clear H; intro _ _ _ _ H) | (refine l_st (z_sto H ?_); clear H; intro _ H) | ((first | refine c_cond ⟨rfl, rfl⟩ ?_ ?_ | refine c_ncond ⟨rfl, rfl⟩ ?_ ?_ | refine l_split rfl rfl ?_ ?_ | refine q_split rfl rfl ?_ ?_ | refine l_nsplit rfl rfl ?_ ?_ | refine q_nsplit rfl rfl ?_ ?_) <;> intro _ <;> try (exfalso; omega)))
  (refine ret1 H rfl rfl rfl ?_; refine iv ?_); rfl
end Go.Proofs.YtiolpldihoghiaaDoor

namespace Go.Proofs.YtiolpldihoghiaaDoor
open Go.RowKit
set_option linter.unusedVariables false
set_option linter.unusedSimpArgs false
set_option maxHeartbeats 4000000
theorem ca_Im4 {k : FuncId} {vs : List Value} {w1 : World} {v : Value} (h : Ret Tryd.prog k vs w1 (fun u _ => u = v) := by first | exact in_any _ _ _ | exact bCheck_any _ _ _ _ _ (by assumption) (H.fact _ mem_auto) | exact correct_any _ _ _ _ _ (H.fact _ mem_auto) | exact imCheck_any _ _ _ _ _ (by omega) (H.fact _ mem_auto) | exact rCheck_any _ _ _ _ _ (by assumption) (H.fact _ mem_auto) | exact rLineage_any _ _ _ _ _ (H.fact _ mem_auto) | exact rImCheck_any _ _ _ _ _ (by omega) (H.fact _ mem_auto)) : Ret Tryd.prog k vs w1 (fun u _ => u = v) := h
section
variable {w0 w : World} {M : Nat → Prop} {L : List Loc} {O : List Own} {F : List (World → Prop)}
theorem Stab.bm {b : Bm} {cs : List Value} (h : Stab w M (fun w' => kBm w' b cs)) :
    ∃ A c, cs = [.int .i64 b.size, .slice A b.words.length c] ∧ rng .i64 b.size ∧ b.words.length ≤ c ∧ c ≤ 9223372036854775807 ∧ Stab w M (Row (kInt .u64) 1 A b.words) := by
  obtain ⟨A, c, h1, h0, h2, h3, _⟩ := h.now
  refine ⟨A, c, h1, h0, h2, h3, fun w' hs hw => ?_⟩
  obtain ⟨A2, c2, q1, _, _, _, q4⟩ := h w' hs hw
  rw [h1] at q1
  injection q1 with _ q1
  injection q1 with q1 _
  injection q1 with q1 _ _
  subst q1
  exact q4
theorem Hp.openBm {A : Option Addr} {xs : List Bm} {i : Nat} (H : Hp w0 M w L O F) (hm : Row kBm 2 A xs ∈ F) (hi : i < xs.length) :
    ∃ A' c', rng .i64 (xs[i]'hi).size ∧ (xs[i]'hi).words.length ≤ c' ∧ c' ≤ 9223372036854775807 ∧ Hp w0 M w L O (Row (kInt .u64) 1 A' (xs[i]'hi).words :: Cel A i 2 [.int .i64 (xs[i]'hi).size, .slice A' (xs[i]'hi).words.length c'] :: F) := by
  obtain ⟨cs, _, hd, H1⟩ := H.openE hm Nat.zero_lt_two (List.getElem?_eq_getElem hi)
  obtain ⟨A', c', rfl, h0, h2, h3, h4⟩ := hd.bm
  exact ⟨A', c', h0, h2, h3, H1.add h4⟩
end
theorem sizesOf_at {im : List (List Sec)} {i : Nat} (h : i < im.length) (h' : i < (sizesOf im).length) : (sizesOf im)[i] = (im[i].length : Int) := by simp [sizesOf]
theorem sizesOf_len (im : List (List Sec)) : (sizesOf im).length = im.length := by simp [sizesOf]
section
variable {p : Pt}
theorem pe2 (h : p.site < 0 ∨ 1073741824 < p.site) : 2 = ptErr p := by unfold ptErr; rw [if_pos h]
theorem pe3 (h : ¬ (p.site < 0 ∨ 1073741824 < p.site)) (h2 : ¬ linOk p.lin = true) : 3 = ptErr p := by unfold ptErr; rw [if_neg h, if_pos (by simpa using h2)]
theorem pe4 (h : ¬ (p.site < 0 ∨ 1073741824 < p.site)) (h2 : linOk p.lin = true) (h3 : imErr p.im ≠ 0) : imErr p.im = ptErr p := by unfold ptErr; rw [if_neg h, if_neg (by simpa using h2), if_pos h3]
theorem pe5 (h : ¬ (p.site < 0 ∨ 1073741824 < p.site)) (h2 : linOk p.lin = true) (h3 : imErr p.im = 0) (h4 : p.dirty.length ≠ p.im.length) : 6 = ptErr p := by unfold ptErr; rw [if_neg h, if_neg (by simpa using h2), if_neg (by omega), if_pos h4]
theorem pe6 (h : ¬ (p.site < 0 ∨ 1073741824 < p.site)) (h2 : linOk p.lin = true) (h3 : imErr p.im = 0) (h4 : p.dirty.length = p.im.length) : bmsErr p.dirty (sizesOf p.im) = ptErr p := by unfold ptErr; rw [if_neg h, if_neg (by simpa using h2), if_neg (by omega), if_neg (by omega)]
end
theorem ptCheck_any (M : Nat → Prop) (p : Pt) (A1 A2 A3 : Option Addr) (c1 c2 c3 : Nat) (w : World) (hs : rng .i64 p.site) (hd : p.dirty.length ≤ 1000000) (hi : p.im.length ≤ 1000000)
    (h1 : Stab w M (Row kSpan 3 A1 p.lin)) (h2 : Stab w M (Row kBm 2 A2 p.dirty)) (h3 : Stab w M (Row kVol 1 A3 p.im)) :
    Ret Tryd.prog 40 [.agg [.int .i64 p.site, .slice A1 p.lin.length c1, .slice A2 p.dirty.length c2, .slice A3 p.im.length c3].toArray] w fun v _ => v = .int .i64 (ptErr p) := by
  refine enter (M := M) (F := [Row kSpan 3 A1 p.lin, Row kBm 2 A2 p.dirty, Row kVol 1 A3 p.im]) Tryd.func40 rfl rfl rfl (by simpa using ⟨h1, h2, h3⟩) fun H => ?_
  repeat' (first | (apply l_rd; exact rd_go; rfl) | (apply q_rd; exact rd_go; rfl) | refine stp ?_ | refine bk_o rfl ?_ | refine c_true ⟨rfl, rfl⟩ ?_ | refine c_false ⟨rfl, rfl⟩ ?_ | (apply l_rdg; rfl; rfl; rfl; exact rd_go; rfl) | refine l_skip rfl rfl rfl rfl ?_ | (apply q_rdg; rfl; rfl; rfl; exact rd_go; rfl) | refine q_skip rfl rfl rfl rfl ?_ | refine c_draw H (by kernel_rfl) ?_ | (refine q_end ?_; clear H; intro _ H) | ((first | refine l_st (z_box H ?_) | refine l_st (s_alloc H rfl ?_)); clear H; intro _ _ _ H) | (refine l_st (t_build0 H rfl ?_); clear H; intro _ _ _ _ H) | (refine l_st (z_sto H ?_); clear H; intro _ H) | ((first | refine c_cond ⟨rfl, rfl⟩ ?_ ?_ | refine c_ncond ⟨rfl, rfl⟩ ?_ ?_ | refine l_split rfl rfl ?_ ?_ | refine q_split rfl rfl ?_ ?_ | refine l_nsplit rfl rfl ?_ ?_ | refine q_nsplit rfl rfl ?_ ?_) <;> intro _ <;> try (exfalso; omega)) | (refine l_st (k_call1 evs_auto H ca_Im4 rfl ?_); clear H; intro _ _ H) | (refine l_st (k_callg1 evs_auto rfl rfl rfl H ca_Im4 rfl ?_); clear H; intro _ _ H) | refine kq_call1 evs_auto H (fun _ H => ca_Im4) rfl ?_ | refine kq_callg1 evs_auto rfl rfl rfl H (fun _ H => ca_Im4) rfl ?_)
  all_goals try (refine ret1 H rfl rfl rfl ?_; refine iv ?_; first | exact pe2 (by omega) | exact pe3 (by omega) (by assumption) | exact pe4 (by omega) (by assumption) (by assumption) | exact pe5 (by omega) (by assumption) (by omega) (by omega))
  have he := pe6 (p := p) (by omega) (by assumption) (by omega) (by omega)
  have hl : p.dirty.length = p.im.length := by omega
  refine c_loopk [33] [31, 32, 1] (fun n vs w' => ∃ (i : Nat), vs = [.int .i64 i] ∧ i ≤ p.dirty.length ∧ n = p.dirty.length - i ∧ bmsErr (p.dirty.drop i) ((sizesOf p.im).drop i) = ptErr p ∧
      Hp w M w' [⟨_, [.int .i64 p.site, .slice A1 p.lin.length c1, .slice A2 p.dirty.length c2, .slice A3 p.im.length c3], _⟩] [] [Row kSpan 3 A1 p.lin, Row kBm 2 A2 p.dirty, Row kVol 1 A3 p.im]) _ [_, _, _] rfl ⟨0, rfl, Nat.zero_le _, rfl, he, H⟩ ?_
  clear H
  rintro n _ E0 w2 ⟨i, rfl, hi1, rfl, hb, H⟩
  by_cases hi' : i < p.dirty.length
  · obtain ⟨A4, c4, hs4, _, _, H1⟩ := H.openBm mem_auto hi'
    obtain ⟨A5, c5, _, _, H2⟩ := H1.openS (dd := kSec) (sz := 8) (A := A3) (xs := p.im) (i := i) mem_auto (by omega)
    clear H H1; have H := H2; clear H2
    have hst := bmsErr_step (l := p.dirty) (ns := sizesOf p.im) hi' (by rw [sizesOf_len]; omega)
    rw [sizesOf_at (by omega)] at hst
    rw [hb] at hst
    repeat' (first | (apply l_rd; exact rd_go; rfl) | (apply q_rd; exact rd_go; rfl) | refine stp ?_ | refine bk_o rfl ?_ | refine c_true ⟨rfl, rfl⟩ ?_ | refine c_false ⟨rfl, rfl⟩ ?_ | (apply l_rdg; rfl; rfl; rfl; exact rd_go; rfl) | refine l_skip rfl rfl rfl rfl ?_ | (apply q_rdg; rfl; rfl; rfl; exact rd_go; rfl) | refine q_skip rfl rfl rfl rfl ?_ | refine c_draw H (by kernel_rfl) ?_ | (refine q_end ?_; clear H; intro _ H) | ((first | refine l_st (z_box H ?_) | refine l_st (s_alloc H rfl ?_)); clear H; intro _ _ _ H) | (refine l_st (t_build0 H rfl ?_); clear H; intro _ _ _ _ H) | (refine l_st (z_sto H ?_); clear H; intro _ H) | ((first | refine c_cond ⟨rfl, rfl⟩ ?_ ?_ | refine c_ncond ⟨rfl, rfl⟩ ?_ ?_ | refine l_split rfl rfl ?_ ?_ | refine q_split rfl rfl ?_ ?_ | refine l_nsplit rfl rfl ?_ ?_ | refine q_nsplit rfl rfl ?_ ?_) <;> intro _ <;> try (exfalso; omega)) | (refine l_st (k_call1 evs_auto H ca_Im4 rfl ?_); clear H; intro _ _ H) | (refine l_st (k_callg1 evs_auto rfl rfl rfl H ca_Im4 rfl ?_); clear H; intro _ _ H) | refine kq_call1 evs_auto H (fun _ H => ca_Im4) rfl ?_ | refine kq_callg1 evs_auto rfl rfl rfl H (fun _ H => ca_Im4) rfl ?_)
    · (refine ret1 H rfl rfl rfl ?_; refine iv ?_); rw [hst, if_pos (by assumption)]
    · (refine ret1 H rfl rfl rfl ?_; refine iv ?_); rw [hst, if_neg (by assumption), if_pos (by assumption)]
    · exact lk_n rfl (n' := p.dirty.length - (i + 1)) (by omega) ⟨i + 1, rfl, hi', rfl, by rw [hst, if_neg (by assumption), if_neg (by assumption)], H.weak (by first | exact List.Sublist.refl _ | exact .cons _ (List.Sublist.refl _)) (List.Sublist.refl _) (by simp)⟩
  · repeat' (first | (apply l_rd; exact rd_go; rfl) | (apply q_rd; exact rd_go; rfl) | refine stp ?_ | refine bk_o rfl ?_ | refine c_true ⟨rfl, rfl⟩ ?_ | refine c_false ⟨rfl, rfl⟩ ?_ | (apply l_rdg; rfl; rfl; rfl; exact rd_go; rfl) | refine l_skip rfl rfl rfl rfl ?_ | (apply q_rdg; rfl; rfl; rfl; exact rd_go; rfl) | refine q_skip rfl rfl rfl rfl ?_ | refine c_draw H (by kernel_rfl) ?_ | (refine q_end ?_; clear H; intro _ H) | ((first | refine l_st (z_box H ?_) | refine l_st (s_alloc H rfl ?_)); clear H; intro _ _ _ H) | (refine l_st (t_build0 H rfl ?_); clear H; intro _ _ _ _ H) | (refine l_st (z_sto H ?_); clear H; intro _ H) | ((first | refine c_cond ⟨rfl, rfl⟩ ?_ ?_ | refine c_ncond ⟨rfl, rfl⟩ ?_ ?_ | refine l_split rfl rfl ?_ ?_ | refine q_split rfl rfl ?_ ?_ | refine l_nsplit rfl rfl ?_ ?_ | refine q_nsplit rfl rfl ?_ ?_) <;> intro _ <;> try (exfalso; omega)) | (refine l_st (k_call1 evs_auto H ca_Im4 rfl ?_); clear H; intro _ _ H) | (refine l_st (k_callg1 evs_auto rfl rfl rfl H ca_Im4 rfl ?_); clear H; intro _ _ H) | refine kq_call1 evs_auto H (fun _ H => ca_Im4) rfl ?_ | refine kq_callg1 evs_auto rfl rfl rfl H (fun _ H => ca_Im4) rfl ?_)
    have hi2 : i = p.dirty.length := by omega
    subst hi2
    (refine ret1 H rfl rfl rfl ?_; refine iv ?_); rw [← hb, List.drop_length]; rfl
theorem rPtCheck_any (M : Nat → Prop) (p : Pt) (A1 A2 A3 : Option Addr) (c1 c2 c3 : Nat) (w : World) (hs : rng .i64 p.site) (hd : p.dirty.length ≤ 1000000) (hi : p.im.length ≤ 1000000)
    (h1 : Stab w M (Row kSpan 3 A1 p.lin)) (h2 : Stab w M (Row kBm 2 A2 p.dirty)) (h3 : Stab w M (Row kVol 1 A3 p.im)) :
    Ret Tryd.prog 45 [.agg [.int .i64 p.site, .slice A1 p.lin.length c1, .slice A2 p.dirty.length c2, .slice A3 p.im.length c3].toArray] w fun v _ => v = .int .i64 (ptErr p) := by
  refine enter (M := M) (F := [Row kSpan 3 A1 p.lin, Row kBm 2 A2 p.dirty, Row kVol 1 A3 p.im]) Tryd.func45 rfl rfl rfl (by simpa using ⟨h1, h2, h3⟩) fun H => ?_
  repeat' (first | (apply l_rd; exact rd_go; rfl) | (apply q_rd; exact rd_go; rfl) | refine stp ?_ | refine bk_o rfl ?_ | refine c_true ⟨rfl, rfl⟩ ?_ | refine c_false ⟨rfl, rfl⟩ ?_ | (apply l_rdg; rfl; rfl; rfl; exact rd_go; rfl) | refine l_skip rfl rfl rfl rfl ?_ | (apply q_rdg; rfl; rfl; rfl; exact rd_go; rfl) | refine q_skip rfl rfl rfl rfl ?_ | refine c_draw H (by kernel_rfl) ?_ | (refine q_end ?_; clear H; intro _ H) | ((first | refine l_st (z_box H ?_) | refine l_st (s_alloc H rfl ?_)); clear H; intro _ _ _ H) | (refine l_st (t_build0 H rfl ?_); clear H; intro _ _ _ _ H) | (refine l_st (z_sto H ?_); clear H; intro _ H) | ((first | refine c_cond ⟨rfl, rfl⟩ ?_ ?_ | refine c_ncond ⟨rfl, rfl⟩ ?_ ?_ | refine l_split rfl rfl ?_ ?_ | refine q_split rfl rfl ?_ ?_ | refine l_nsplit rfl rfl ?_ ?_ | refine q_nsplit rfl rfl ?_ ?_) <;> intro _ <;> try (exfalso; omega)) | (refine l_st (k_call1 evs_auto H ca_Im4 rfl ?_); clear H; intro _ _ H) | (refine l_st (k_callg1 evs_auto rfl rfl rfl H ca_Im4 rfl ?_); clear H; intro _ _ H) | refine kq_call1 evs_auto H (fun _ H => ca_Im4) rfl ?_ | refine kq_callg1 evs_auto rfl rfl rfl H (fun _ H => ca_Im4) rfl ?_)
  all_goals try (refine ret1 H rfl rfl rfl ?_; refine iv ?_; first | exact pe2 (by omega) | exact pe3 (by omega) (by assumption) | exact pe4 (by omega) (by assumption) (by assumption) | exact pe5 (by omega) (by assumption) (by omega) (by omega))
  have he := pe6 (p := p) (by omega) (by assumption) (by omega) (by omega)
  have hl : p.dirty.length = p.im.length := by omega
  refine c_loopk [4] [1] (fun n vs w' => ∃ (i : Nat), vs = [.int .i64 i] ∧ i ≤ p.dirty.length ∧ n = p.dirty.length - i ∧ bmsErr (p.dirty.drop i) ((sizesOf p.im).drop i) = ptErr p ∧
      Hp w M w' [⟨_, [.int .i64 p.site, .slice A1 p.lin.length c1, .slice A2 p.dirty.length c2, .slice A3 p.im.length c3], _⟩] [] [Row kSpan 3 A1 p.lin, Row kBm 2 A2 p.dirty, Row kVol 1 A3 p.im]) _ [_] rfl ⟨0, rfl, Nat.zero_le _, rfl, he, H⟩ ?_
  clear H
  rintro n _ E0 w2 ⟨i, rfl, hi1, rfl, hb, H⟩
  by_cases hi' : i < p.dirty.length
  · obtain ⟨A4, c4, hs4, _, _, H1⟩ := H.openBm mem_auto hi'
    obtain ⟨A5, c5, _, _, H2⟩ := H1.openS (dd := kSec) (sz := 8) (A := A3) (xs := p.im) (i := i) mem_auto (by omega)
    clear H H1; have H := H2; clear H2
    have hst := bmsErr_step (l := p.dirty) (ns := sizesOf p.im) hi' (by rw [sizesOf_len]; omega)
    rw [sizesOf_at (by omega)] at hst
    rw [hb] at hst
    repeat' (first | (apply l_rd; exact rd_go; rfl) | (apply q_rd; exact rd_go; rfl) | refine stp ?_ | refine bk_o rfl ?_ | refine c_true ⟨rfl, rfl⟩ ?_ | refine c_false ⟨rfl, rfl⟩ ?_ | (apply l_rdg; rfl; rfl; rfl; exact rd_go; rfl) | refine l_skip rfl rfl rfl rfl ?_ | (apply q_rdg; rfl; rfl; rfl; exact rd_go; rfl) | refine q_skip rfl rfl rfl rfl ?_ | refine c_draw H (by kernel_rfl) ?_ | (refine q_end ?_; clear H; intro _ H) | ((first | refine l_st (z_box H ?_) | refine l_st (s_alloc H rfl ?_)); clear H; intro _ _ _ H) | (refine l_st (t_build0 H rfl ?_); clear H; intro _ _ _ _ H) | (refine l_st (z_sto H ?_); clear H; intro _ H) | ((first | refine c_cond ⟨rfl, rfl⟩ ?_ ?_ | refine c_ncond ⟨rfl, rfl⟩ ?_ ?_ | refine l_split rfl rfl ?_ ?_ | refine q_split rfl rfl ?_ ?_ | refine l_nsplit rfl rfl ?_ ?_ | refine q_nsplit rfl rfl ?_ ?_) <;> intro _ <;> try (exfalso; omega)) | (refine l_st (k_call1 evs_auto H ca_Im4 rfl ?_); clear H; intro _ _ H) | (refine l_st (k_callg1 evs_auto rfl rfl rfl H ca_Im4 rfl ?_); clear H; intro _ _ H) | refine kq_call1 evs_auto H (fun _ H => ca_Im4) rfl ?_ | refine kq_callg1 evs_auto rfl rfl rfl H (fun _ H => ca_Im4) rfl ?_)
    · (refine ret1 H rfl rfl rfl ?_; refine iv ?_); rw [hst, if_pos (by assumption)]
    · (refine ret1 H rfl rfl rfl ?_; refine iv ?_); rw [hst, if_neg (by assumption), if_pos (by assumption)]
    · exact lk_n rfl (n' := p.dirty.length - (i + 1)) (by omega) ⟨i + 1, rfl, hi', rfl, by rw [hst, if_neg (by assumption), if_neg (by assumption)], H.weak (by first | exact List.Sublist.refl _ | exact .cons _ (List.Sublist.refl _)) (List.Sublist.refl _) (by simp)⟩
  · repeat' (first | (apply l_rd; exact rd_go; rfl) | (apply q_rd; exact rd_go; rfl) | refine stp ?_ | refine bk_o rfl ?_ | refine c_true ⟨rfl, rfl⟩ ?_ | refine c_false ⟨rfl, rfl⟩ ?_ | (apply l_rdg; rfl; rfl; rfl; exact rd_go; rfl) | refine l_skip rfl rfl rfl rfl ?_ | (apply q_rdg; rfl; rfl; rfl; exact rd_go; rfl) | refine q_skip rfl rfl rfl rfl ?_ | refine c_draw H (by kernel_rfl) ?_ | (refine q_end ?_; clear H; intro _ H) | ((first | refine l_st (z_box H ?_) | refine l_st (s_alloc H rfl ?_)); clear H; intro _ _ _ H) | (refine l_st (t_build0 H rfl ?_); clear H; intro _ _ _ _ H) | (refine l_st (z_sto H ?_); clear H; intro _ H) | ((first | refine c_cond ⟨rfl, rfl⟩ ?_ ?_ | refine c_ncond ⟨rfl, rfl⟩ ?_ ?_ | refine l_split rfl rfl ?_ ?_ | refine q_split rfl rfl ?_ ?_ | refine l_nsplit rfl rfl ?_ ?_ | refine q_nsplit rfl rfl ?_ ?_) <;> intro _ <;> try (exfalso; omega)) | (refine l_st (k_call1 evs_auto H ca_Im4 rfl ?_); clear H; intro _ _ H) | (refine l_st (k_callg1 evs_auto rfl rfl rfl H ca_Im4 rfl ?_); clear H; intro _ _ H) | refine kq_call1 evs_auto H (fun _ H => ca_Im4) rfl ?_ | refine kq_callg1 evs_auto rfl rfl rfl H (fun _ H => ca_Im4) rfl ?_)
    have hi2 : i = p.dirty.length := by omega
    subst hi2
    (refine ret1 H rfl rfl rfl ?_; refine iv ?_); rw [← hb, List.drop_length]; rfl
end Go.Proofs.YtiolpldihoghiaaDoor
