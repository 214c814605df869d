/- Undo and Extents of the program and of the reference: the contracts. Whether a write fits: the contracts. image.New, coalesce.Check and its reference: the contracts. The engine, part 24: slice literals of any length; sub-slices of rows of one's own; 'copy'. Over any program. Writes applied to an image, in plain Lean. The reference's Copy of an image: the contract. -/
import Derived.Test.YtiolpldihoghiaaDoorC7
import Derived.Test.YtiolpldihoghiaaDoorC4
namespace Go.Proofs.YtiolpldihoghiaaDoor
open Go.RowKit
set_option linter.unusedVariables false
set_option linter.unusedSimpArgs false
set_option maxHeartbeats 4000000
theorem ca_Pt3 {k : FuncId} {vs : List Value} {w1 : World} {v : Value} (h : Ret Tryd.prog k vs w1 (fun u _ => u = v) := by first | exact ptCheck_any _ _ _ _ _ _ _ _ _ (by assumption) (by omega) (by omega) (H.fact _ mem_auto) (H.fact _ mem_auto) (H.fact _ mem_auto) | exact rPtCheck_any _ _ _ _ _ _ _ _ _ (by assumption) (by omega) (by omega) (H.fact _ mem_auto) (H.fact _ mem_auto) (H.fact _ mem_auto) | exact last_any _ _ _ _ _ (H.fact _ mem_auto)) : Ret Tryd.prog k vs w1 (fun u _ => u = v) := h
theorem undo1_any (M : Nat → Prop) (i : Int) (b : Bm) (A : Option Addr) (c : Nat) (w : World) (hM : ∀ b, M b → b < w.heap.size) (hs : rng .i64 b.size) (hF : Stab w M (Row (kInt .u64) 1 A b.words)) (hT : Stab w M TabF) :
    Ret Tryd.prog 43 [.int .i64 i, .agg [.int .i64 b.size, .slice A b.words.length c].toArray] w fun v w' => Fresh kExt 103 2 M w (exts b) v w' := by
  refine enter (M := M) (F := [Row (kInt .u64) 1 A b.words, TabF]) Tryd.func43 rfl rfl rfl (by simpa using ⟨hF, hT⟩) fun H => ?_
  repeat' (first | (apply l_rd; exact rd_go; rfl) | (apply q_rd; exact rd_go; rfl) | refine stp ?_ | refine bk_o rfl ?_ | refine c_true ⟨rfl, rfl⟩ ?_ | refine c_false ⟨rfl, rfl⟩ ?_ | (apply l_rdg; rfl; rfl; rfl; exact rd_go; rfl) | refine l_skip rfl rfl rfl rfl ?_ | (apply q_rdg; rfl; rfl; rfl; exact rd_go; rfl) | refine q_skip rfl rfl rfl rfl ?_ | refine c_draw H (by kernel_rfl) ?_ | (refine q_end ?_; clear H; intro _ H) | ((first | refine l_st (z_box H ?_) | refine l_st (s_alloc H rfl ?_)); clear H; intro _ _ _ H) | (refine l_st (t_build0 H rfl ?_); clear H; intro _ _ _ _ H) | (refine l_st (z_sto H ?_); clear H; intro _ H) | ((first | refine c_cond ⟨rfl, rfl⟩ ?_ ?_ | refine c_ncond ⟨rfl, rfl⟩ ?_ ?_ | refine l_split rfl rfl ?_ ?_ | refine q_split rfl rfl ?_ ?_ | refine l_nsplit rfl rfl ?_ ?_ | refine q_nsplit rfl rfl ?_ ?_) <;> intro _ <;> try (exfalso; omega)) | (refine l_st (k_call1 evs_auto H ca_Pt3 rfl ?_); clear H; intro _ _ H) | (refine l_st (k_callg1 evs_auto rfl rfl rfl H ca_Pt3 rfl ?_); clear H; intro _ _ H) | refine kq_call1 evs_auto H (fun _ H => ca_Pt3) rfl ?_ | refine kq_callg1 evs_auto rfl rfl rfl H (fun _ H => ca_Pt3) rfl ?_)
  refine l_st (k_call evs_auto H (extents_any _ b A c _ (H.mu_lt hM) hs (H.fact _ mem_auto) (H.fact _ mem_auto)) rfl ?_)
  rintro v w1 hf hb _
  obtain ⟨A1, c1, cs, rfl, _, _, H1⟩ := H.take' hb hf
  clear H; have H := H1; clear H1
  repeat' (first | (apply l_rd; exact rd_go; rfl) | (apply q_rd; exact rd_go; rfl) | refine stp ?_ | refine bk_o rfl ?_ | refine c_true ⟨rfl, rfl⟩ ?_ | refine c_false ⟨rfl, rfl⟩ ?_ | (apply l_rdg; rfl; rfl; rfl; exact rd_go; rfl) | refine l_skip rfl rfl rfl rfl ?_ | (apply q_rdg; rfl; rfl; rfl; exact rd_go; rfl) | refine q_skip rfl rfl rfl rfl ?_ | refine c_draw H (by kernel_rfl) ?_ | (refine q_end ?_; clear H; intro _ H) | ((first | refine l_st (z_box H ?_) | refine l_st (s_alloc H rfl ?_)); clear H; intro _ _ _ H) | (refine l_st (t_build0 H rfl ?_); clear H; intro _ _ _ _ H) | (refine l_st (z_sto H ?_); clear H; intro _ H) | ((first | refine c_cond ⟨rfl, rfl⟩ ?_ ?_ | refine c_ncond ⟨rfl, rfl⟩ ?_ ?_ | refine l_split rfl rfl ?_ ?_ | refine q_split rfl rfl ?_ ?_ | refine l_nsplit rfl rfl ?_ ?_ | refine q_nsplit rfl rfl ?_ ?_) <;> intro _ <;> try (exfalso; omega)) | (refine l_st (k_call1 evs_auto H ca_Pt3 rfl ?_); clear H; intro _ _ H) | (refine l_st (k_callg1 evs_auto rfl rfl rfl H ca_Pt3 rfl ?_); clear H; intro _ _ H) | refine kq_call1 evs_auto H (fun _ H => ca_Pt3) rfl ?_ | refine kq_callg1 evs_auto rfl rfl rfl H (fun _ H => ca_Pt3) rfl ?_)
  exact ret1 H rfl rfl rfl (H.fresh (j := 0) rfl (List.mem_cons_self ..) rfl)
theorem bm_rng {w : World} {M : Nat → Prop} {A : Option Addr} {l : List Bm} (h : Stab w M (Row kBm 2 A l)) : ∀ b ∈ l, rng .i64 b.size ∧ b.words.length ≤ 140737488355328 := fun b hb => by
  obtain ⟨cs, hd⟩ := mem_row h (by decide) hb
  obtain ⟨A, c, _, h1, _, _, h2⟩ := hd.now
  exact ⟨h1, h2.len⟩
theorem lastTo_nil {l : List Span} (h : l.length = 0) : lastTo l = 0 := by rw [List.eq_nil_of_length_eq_zero h]; rfl
theorem map_snoc {l : List Bm} {i : Nat} (h : i < l.length) : (l.take i).map exts ++ [exts l[i]] = (l.take (i + 1)).map exts := by
  rw [List.take_succ_eq_append_getElem h, List.map_append]; rfl
theorem volumes_any (M : Nat → Prop) (l : List Bm) (A : Option Addr) (c : Nat) (w : World) (hM : ∀ b, M b → b < w.heap.size) (hl : l.length ≤ 1000000) (hF : Stab w M (Row kBm 2 A l)) (hT : Stab w M TabF) :
    Ret Tryd.prog 42 [.slice A l.length c, .func (.func 43) #[] #[]] w fun v w' => Fresh (kSl 2 kExt) 68 1 M w (l.map exts) v w' := by
  refine enter (M := M) (F := [Row kBm 2 A l, TabF]) Tryd.func42 rfl rfl rfl (by simpa using ⟨hF, hT⟩) fun H => ?_
  repeat' (first | (apply l_rd; exact rd_go; rfl) | (apply q_rd; exact rd_go; rfl) | refine stp ?_ | refine bk_o rfl ?_ | refine c_true ⟨rfl, rfl⟩ ?_ | refine c_false ⟨rfl, rfl⟩ ?_ | (apply l_rdg; rfl; rfl; rfl; exact rd_go; rfl) | refine l_skip rfl rfl rfl rfl ?_ | (apply q_rdg; rfl; rfl; rfl; exact rd_go; rfl) | refine q_skip rfl rfl rfl rfl ?_ | refine c_draw H (by kernel_rfl) ?_ | (refine q_end ?_; clear H; intro _ H) | ((first | refine l_st (z_box H ?_) | refine l_st (s_alloc H rfl ?_)); clear H; intro _ _ _ H) | (refine l_st (t_build0 H rfl ?_); clear H; intro _ _ _ _ H) | (refine l_st (z_sto H ?_); clear H; intro _ H) | ((first | refine c_cond ⟨rfl, rfl⟩ ?_ ?_ | refine c_ncond ⟨rfl, rfl⟩ ?_ ?_ | refine l_split rfl rfl ?_ ?_ | refine q_split rfl rfl ?_ ?_ | refine l_nsplit rfl rfl ?_ ?_ | refine q_nsplit rfl rfl ?_ ?_) <;> intro _ <;> try (exfalso; omega)) | (refine l_st (k_call1 evs_auto H ca_Pt3 rfl ?_); clear H; intro _ _ H) | (refine l_st (k_callg1 evs_auto rfl rfl rfl H ca_Pt3 rfl ?_); clear H; intro _ _ H) | refine kq_call1 evs_auto H (fun _ H => ca_Pt3) rfl ?_ | refine kq_callg1 evs_auto rfl rfl rfl H (fun _ H => ca_Pt3) rfl ?_)
  have H1 := (H.own_nil 68 1).add (f := Chunks (kSl 2 kExt) 1 ([] : List (List Ext)) []) (fun _ _ _ => Chunks.nil)
  refine c_loopk [10, 5] [1, 8, 9] (fun n vs w' => ∃ (i : Nat) (A' : Option Addr) (c' : Nat) (xs : List (List Ext)) (cs : List Value), vs = [.int .i64 i, .slice A' xs.length c'] ∧ i ≤ l.length ∧ n = l.length - i ∧ xs = (l.take i).map exts ∧
      Hp w M w' [] [⟨.slice A' xs.length c', 68, 1, xs.length, cs⟩] [Chunks (kSl 2 kExt) 1 xs cs, Row kBm 2 A l, TabF]) _ [_, _, _] rfl ⟨0, none, 0, [], [], rfl, Nat.zero_le _, rfl, rfl, H1⟩ ?_
  clear H H1
  rintro n _ E0 w2 ⟨i, A', c', xs, cs, rfl, hi, rfl, hxs, H⟩
  have hxl : xs.length = i := by rw [hxs, List.length_map, List.length_take]; omega
  by_cases hi' : i < l.length
  · obtain ⟨A4, c4, hs4, _, _, H1⟩ := H.openBm (A := A) (xs := l) mem_auto hi'
    clear H; have H := H1; clear H1
    repeat' (first | (apply l_rd; exact rd_go; rfl) | (apply q_rd; exact rd_go; rfl) | refine stp ?_ | refine bk_o rfl ?_ | refine c_true ⟨rfl, rfl⟩ ?_ | refine c_false ⟨rfl, rfl⟩ ?_ | (apply l_rdg; rfl; rfl; rfl; exact rd_go; rfl) | refine l_skip rfl rfl rfl rfl ?_ | (apply q_rdg; rfl; rfl; rfl; exact rd_go; rfl) | refine q_skip rfl rfl rfl rfl ?_ | refine c_draw H (by kernel_rfl) ?_ | (refine q_end ?_; clear H; intro _ H) | ((first | refine l_st (z_box H ?_) | refine l_st (s_alloc H rfl ?_)); clear H; intro _ _ _ H) | (refine l_st (t_build0 H rfl ?_); clear H; intro _ _ _ _ H) | (refine l_st (z_sto H ?_); clear H; intro _ H) | ((first | refine c_cond ⟨rfl, rfl⟩ ?_ ?_ | refine c_ncond ⟨rfl, rfl⟩ ?_ ?_ | refine l_split rfl rfl ?_ ?_ | refine q_split rfl rfl ?_ ?_ | refine l_nsplit rfl rfl ?_ ?_ | refine q_nsplit rfl rfl ?_ ?_) <;> intro _ <;> try (exfalso; omega)) | (refine l_st (k_call1 evs_auto H ca_Pt3 rfl ?_); clear H; intro _ _ H) | (refine l_st (k_callg1 evs_auto rfl rfl rfl H ca_Pt3 rfl ?_); clear H; intro _ _ H) | refine kq_call1 evs_auto H (fun _ H => ca_Pt3) rfl ?_ | refine kq_callg1 evs_auto rfl rfl rfl H (fun _ H => ca_Pt3) rfl ?_)
    refine l_st (k_callv0 evs_auto ⟨rfl, rfl⟩ H (undo1_any _ _ (l[i]'hi') A4 c4 _ (H.mu_lt hM) hs4 (H.fact _ mem_auto) (H.fact _ mem_auto)) rfl ?_)
    rintro v w8 hf8 hb8 _
    obtain ⟨A9, c9, cs9, rfl, _, _, H9⟩ := H.take' hb8 hf8
    obtain ⟨s3, s4, H10⟩ := H9.sealR (dd := kExt) (xs := exts (l[i]'hi')) mem_auto hM Nat.zero_lt_two rfl (by have := (exts_B (l[i]'hi')).1; omega)
    clear H H9 hf8; have H := H10; clear H10
    repeat' (first | (apply l_rd; exact rd_go; rfl) | (apply q_rd; exact rd_go; rfl) | refine stp ?_ | refine bk_o rfl ?_ | refine c_true ⟨rfl, rfl⟩ ?_ | refine c_false ⟨rfl, rfl⟩ ?_ | (apply l_rdg; rfl; rfl; rfl; exact rd_go; rfl) | refine l_skip rfl rfl rfl rfl ?_ | (apply q_rdg; rfl; rfl; rfl; exact rd_go; rfl) | refine q_skip rfl rfl rfl rfl ?_ | refine c_draw H (by kernel_rfl) ?_ | (refine q_end ?_; clear H; intro _ H) | ((first | refine l_st (z_box H ?_) | refine l_st (s_alloc H rfl ?_)); clear H; intro _ _ _ H) | (refine l_st (t_build0 H rfl ?_); clear H; intro _ _ _ _ H) | (refine l_st (z_sto H ?_); clear H; intro _ H) | ((first | refine c_cond ⟨rfl, rfl⟩ ?_ ?_ | refine c_ncond ⟨rfl, rfl⟩ ?_ ?_ | refine l_split rfl rfl ?_ ?_ | refine q_split rfl rfl ?_ ?_ | refine l_nsplit rfl rfl ?_ ?_ | refine q_nsplit rfl rfl ?_ ?_) <;> intro _ <;> try (exfalso; omega)) | (refine l_st (k_call1 evs_auto H ca_Pt3 rfl ?_); clear H; intro _ _ H) | (refine l_st (k_callg1 evs_auto rfl rfl rfl H ca_Pt3 rfl ?_); clear H; intro _ _ H) | refine kq_call1 evs_auto H (fun _ H => ca_Pt3) rfl ?_ | refine kq_callg1 evs_auto rfl rfl rfl H (fun _ H => ca_Pt3) rfl ?_)
    refine l_apps (j := 0) (dd := kSl 2 kExt) (xs := xs) (exts (l[i]'hi')) H rfl rfl mem_auto ⟨rfl, rfl⟩ ((H.fact _ mem_auto).imp fun w' h => ⟨A9, c9, rfl, s3, s4, h⟩) rfl (fun _ => ⟨rfl, rfl⟩) (by omega) rfl ?_
    clear H; intro A10 c10 _ _ H
    repeat' (first | (apply l_rd; exact rd_go; rfl) | (apply q_rd; exact rd_go; rfl) | refine stp ?_ | refine bk_o rfl ?_ | refine c_true ⟨rfl, rfl⟩ ?_ | refine c_false ⟨rfl, rfl⟩ ?_ | (apply l_rdg; rfl; rfl; rfl; exact rd_go; rfl) | refine l_skip rfl rfl rfl rfl ?_ | (apply q_rdg; rfl; rfl; rfl; exact rd_go; rfl) | refine q_skip rfl rfl rfl rfl ?_ | refine c_draw H (by kernel_rfl) ?_ | (refine q_end ?_; clear H; intro _ H) | ((first | refine l_st (z_box H ?_) | refine l_st (s_alloc H rfl ?_)); clear H; intro _ _ _ H) | (refine l_st (t_build0 H rfl ?_); clear H; intro _ _ _ _ H) | (refine l_st (z_sto H ?_); clear H; intro _ H) | ((first | refine c_cond ⟨rfl, rfl⟩ ?_ ?_ | refine c_ncond ⟨rfl, rfl⟩ ?_ ?_ | refine l_split rfl rfl ?_ ?_ | refine q_split rfl rfl ?_ ?_ | refine l_nsplit rfl rfl ?_ ?_ | refine q_nsplit rfl rfl ?_ ?_) <;> intro _ <;> try (exfalso; omega)) | (refine l_st (k_call1 evs_auto H ca_Pt3 rfl ?_); clear H; intro _ _ H) | (refine l_st (k_callg1 evs_auto rfl rfl rfl H ca_Pt3 rfl ?_); clear H; intro _ _ H) | refine kq_call1 evs_auto H (fun _ H => ca_Pt3) rfl ?_ | refine kq_callg1 evs_auto rfl rfl rfl H (fun _ H => ca_Pt3) rfl ?_)
    exact lk_n rfl (n' := l.length - (i + 1)) (by omega) ⟨i + 1, A10, c10, xs ++ [exts (l[i]'hi')], _, rfl, hi', rfl, by rw [hxs, map_snoc hi'], H.weak (List.nil_sublist _) (List.Sublist.refl _) (by simp)⟩
  · repeat' (first | (apply l_rd; exact rd_go; rfl) | (apply q_rd; exact rd_go; rfl) | refine stp ?_ | refine bk_o rfl ?_ | refine c_true ⟨rfl, rfl⟩ ?_ | refine c_false ⟨rfl, rfl⟩ ?_ | (apply l_rdg; rfl; rfl; rfl; exact rd_go; rfl) | refine l_skip rfl rfl rfl rfl ?_ | (apply q_rdg; rfl; rfl; rfl; exact rd_go; rfl) | refine q_skip rfl rfl rfl rfl ?_ | refine c_draw H (by kernel_rfl) ?_ | (refine q_end ?_; clear H; intro _ H) | ((first | refine l_st (z_box H ?_) | refine l_st (s_alloc H rfl ?_)); clear H; intro _ _ _ H) | (refine l_st (t_build0 H rfl ?_); clear H; intro _ _ _ _ H) | (refine l_st (z_sto H ?_); clear H; intro _ H) | ((first | refine c_cond ⟨rfl, rfl⟩ ?_ ?_ | refine c_ncond ⟨rfl, rfl⟩ ?_ ?_ | refine l_split rfl rfl ?_ ?_ | refine q_split rfl rfl ?_ ?_ | refine l_nsplit rfl rfl ?_ ?_ | refine q_nsplit rfl rfl ?_ ?_) <;> intro _ <;> try (exfalso; omega)) | (refine l_st (k_call1 evs_auto H ca_Pt3 rfl ?_); clear H; intro _ _ H) | (refine l_st (k_callg1 evs_auto rfl rfl rfl H ca_Pt3 rfl ?_); clear H; intro _ _ H) | refine kq_call1 evs_auto H (fun _ H => ca_Pt3) rfl ?_ | refine kq_callg1 evs_auto rfl rfl rfl H (fun _ H => ca_Pt3) rfl ?_)
    have hi2 : i = l.length := by omega
    have e : xs = l.map exts := by rw [hxs, List.take_of_length_le (by omega)]
    subst e
    exact ret1 H rfl rfl rfl (H.fresh (j := 0) rfl mem_auto rfl)
section
variable (M : Nat → Prop) (w : World) (hM : ∀ b, M b → b < w.heap.size) (p : Pt) (m : Int) (A1 A2 A3 : Option Addr) (c1 c2 c3 : Nat) (hs : rng .i64 p.site) (hd : p.dirty.length ≤ 1000000) (hi : p.im.length ≤ 1000000) (hm : rng .i64 m)
  (h1 : Stab w M (Row kSpan 3 A1 p.lin)) (h2 : Stab w M (Row kBm 2 A2 p.dirty)) (h3 : Stab w M (Row kVol 1 A3 p.im)) (hT : Stab w M TabF)
include hM hs hd hi hm h1 h2 h3 hT
omit hm in
theorem undo_any : Ret Tryd.prog 12 [.agg [.int .i64 p.site, .slice A1 p.lin.length c1, .slice A2 p.dirty.length c2, .slice A3 p.im.length c3].toArray, .int .i64 m] w (ExtsRet M w (undoSp p m)) := by
  refine enter (M := M) (F := [Row kSpan 3 A1 p.lin, Row kBm 2 A2 p.dirty, Row kVol 1 A3 p.im, TabF]) Tryd.func12 rfl rfl rfl (by simpa using ⟨h1, h2, h3, hT⟩) fun H => ?_
  repeat' (first | (apply l_rd; exact rd_go; rfl) | (apply q_rd; exact rd_go; rfl) | refine stp ?_ | refine bk_o rfl ?_ | refine c_true ⟨rfl, rfl⟩ ?_ | refine c_false ⟨rfl, rfl⟩ ?_ | (apply l_rdg; rfl; rfl; rfl; exact rd_go; rfl) | refine l_skip rfl rfl rfl rfl ?_ | (apply q_rdg; rfl; rfl; rfl; exact rd_go; rfl) | refine q_skip rfl rfl rfl rfl ?_ | refine c_draw H (by kernel_rfl) ?_ | (refine q_end ?_; clear H; intro _ H) | ((first | refine l_st (z_box H ?_) | refine l_st (s_alloc H rfl ?_)); clear H; intro _ _ _ H) | (refine l_st (t_build0 H rfl ?_); clear H; intro _ _ _ _ H) | (refine l_st (z_sto H ?_); clear H; intro _ H) | ((first | refine c_cond ⟨rfl, rfl⟩ ?_ ?_ | refine c_ncond ⟨rfl, rfl⟩ ?_ ?_ | refine l_split rfl rfl ?_ ?_ | refine q_split rfl rfl ?_ ?_ | refine l_nsplit rfl rfl ?_ ?_ | refine q_nsplit rfl rfl ?_ ?_) <;> intro _ <;> try (exfalso; omega)) | (refine l_st (k_call1 evs_auto H ca_Pt3 rfl ?_); clear H; intro _ _ H) | (refine l_st (k_callg1 evs_auto rfl rfl rfl H ca_Pt3 rfl ?_); clear H; intro _ _ H) | refine kq_call1 evs_auto H (fun _ H => ca_Pt3) rfl ?_ | refine kq_callg1 evs_auto rfl rfl rfl H (fun _ H => ca_Pt3) rfl ?_)
  · refine ret2 (v := .slice _ _ _) (v' := .int _ _) H rfl rfl rfl rfl (exts_ret0 H ?_); unfold undoSp; rw [if_pos (by assumption)]
  · refine ret2 (v := .slice _ _ _) (v' := .int _ _) H rfl rfl rfl rfl (exts_ret0 H ?_); unfold undoSp; rw [if_neg (by assumption), if_pos (by omega)]
  · refine ret2 (v := .slice _ _ _) (v' := .int _ _) H rfl rfl rfl rfl (exts_ret0 H ?_); unfold undoSp; rw [if_neg (by assumption), if_pos (by omega)]
  · refine l_st (k_call evs_auto H (volumes_any _ p.dirty A2 c2 _ (H.mu_lt hM) hd (H.fact _ mem_auto) (H.fact _ mem_auto)) rfl ?_)
    rintro _ w9 hf hb _
    obtain ⟨A9, c9, cs, rfl, _, _, H1⟩ := H.take' hb hf
    clear H; have H := H1; clear H1
    repeat' (first | (apply l_rd; exact rd_go; rfl) | (apply q_rd; exact rd_go; rfl) | refine stp ?_ | refine bk_o rfl ?_ | refine c_true ⟨rfl, rfl⟩ ?_ | refine c_false ⟨rfl, rfl⟩ ?_ | (apply l_rdg; rfl; rfl; rfl; exact rd_go; rfl) | refine l_skip rfl rfl rfl rfl ?_ | (apply q_rdg; rfl; rfl; rfl; exact rd_go; rfl) | refine q_skip rfl rfl rfl rfl ?_ | refine c_draw H (by kernel_rfl) ?_ | (refine q_end ?_; clear H; intro _ H) | ((first | refine l_st (z_box H ?_) | refine l_st (s_alloc H rfl ?_)); clear H; intro _ _ _ H) | (refine l_st (t_build0 H rfl ?_); clear H; intro _ _ _ _ H) | (refine l_st (z_sto H ?_); clear H; intro _ H) | ((first | refine c_cond ⟨rfl, rfl⟩ ?_ ?_ | refine c_ncond ⟨rfl, rfl⟩ ?_ ?_ | refine l_split rfl rfl ?_ ?_ | refine q_split rfl rfl ?_ ?_ | refine l_nsplit rfl rfl ?_ ?_ | refine q_nsplit rfl rfl ?_ ?_) <;> intro _ <;> try (exfalso; omega)) | (refine l_st (k_call1 evs_auto H ca_Pt3 rfl ?_); clear H; intro _ _ H) | (refine l_st (k_callg1 evs_auto rfl rfl rfl H ca_Pt3 rfl ?_); clear H; intro _ _ H) | refine kq_call1 evs_auto H (fun _ H => ca_Pt3) rfl ?_ | refine kq_callg1 evs_auto rfl rfl rfl H (fun _ H => ca_Pt3) rfl ?_)
    have e : undoSp p m = (p.dirty.map exts, 0) := by unfold undoSp; rw [if_neg (by assumption), if_neg (by omega)]
    refine ret2 (v := .slice _ _ _) (v' := .int _ _) H rfl rfl rfl rfl ?_
    rw [e]
    exact ⟨_, rfl, H.fresh (j := 0) rfl (List.mem_cons_self ..) rfl⟩
omit hT hm in
theorem rUndo_any : Ret Tryd.prog 13 [.agg [.int .i64 p.site, .slice A1 p.lin.length c1, .slice A2 p.dirty.length c2, .slice A3 p.im.length c3].toArray, .int .i64 m] w (ExtsRet M w (undoSp p m)) := by
  have hll := h1.now.len
  refine enter (M := M) (F := [Row kSpan 3 A1 p.lin, Row kBm 2 A2 p.dirty, Row kVol 1 A3 p.im]) Tryd.func13 rfl rfl rfl (by simpa using ⟨h1, h2, h3⟩) fun H => ?_
  rcases Nat.eq_zero_or_pos p.lin.length with hz | hz
  · have hlast := lastTo_nil hz
    repeat' (first | (apply l_rd; exact rd_go; rfl) | (apply q_rd; exact rd_go; rfl) | refine stp ?_ | refine bk_o rfl ?_ | refine c_true ⟨rfl, rfl⟩ ?_ | refine c_false ⟨rfl, rfl⟩ ?_ | (apply l_rdg; rfl; rfl; rfl; exact rd_go; rfl) | refine l_skip rfl rfl rfl rfl ?_ | (apply q_rdg; rfl; rfl; rfl; exact rd_go; rfl) | refine q_skip rfl rfl rfl rfl ?_ | refine c_draw H (by kernel_rfl) ?_ | (refine q_end ?_; clear H; intro _ H) | ((first | refine l_st (z_box H ?_) | refine l_st (s_alloc H rfl ?_)); clear H; intro _ _ _ H) | (refine l_st (t_build0 H rfl ?_); clear H; intro _ _ _ _ H) | (refine l_st (z_sto H ?_); clear H; intro _ H) | ((first | refine c_cond ⟨rfl, rfl⟩ ?_ ?_ | refine c_ncond ⟨rfl, rfl⟩ ?_ ?_ | refine l_split rfl rfl ?_ ?_ | refine q_split rfl rfl ?_ ?_ | refine l_nsplit rfl rfl ?_ ?_ | refine q_nsplit rfl rfl ?_ ?_) <;> intro _ <;> try (exfalso; omega)) | (refine l_st (k_call1 evs_auto H ca_Pt3 rfl ?_); clear H; intro _ _ H) | (refine l_st (k_callg1 evs_auto rfl rfl rfl H ca_Pt3 rfl ?_); clear H; intro _ _ H) | refine kq_call1 evs_auto H (fun _ H => ca_Pt3) rfl ?_ | refine kq_callg1 evs_auto rfl rfl rfl H (fun _ H => ca_Pt3) rfl ?_)
    all_goals try (refine ret2 (v := .slice _ _ _) (v' := .int _ _) H rfl rfl rfl rfl (exts_ret0 H ?_); unfold undoSp; first | rw [if_pos (by assumption)] | rw [if_neg (by assumption), if_pos (by omega)])
    have e : undoSp p m = (p.dirty.map exts, 0) := by unfold undoSp; rw [if_neg (by assumption), if_neg (by omega)]
    have H1 := (H.own_nil 68 1).add (f := Chunks (kSl 2 kExt) 1 ([] : List (List Ext)) []) (fun _ _ _ => Chunks.nil)
    refine c_loopk [10, 9] [2] (fun n vs w' => ∃ (i : Nat) (A' : Option Addr) (c' : Nat) (xs : List (List Ext)) (cs : List Value), vs = [.int .i64 i, .slice A' xs.length c'] ∧ i ≤ p.dirty.length ∧ n = p.dirty.length - i ∧ xs = (p.dirty.take i).map exts ∧
        Hp w M w' [⟨_, [.int .i64 p.site, .slice A1 p.lin.length c1, .slice A2 p.dirty.length c2, .slice A3 p.im.length c3], _⟩] [⟨.slice A' xs.length c', 68, 1, xs.length, cs⟩] [Chunks (kSl 2 kExt) 1 xs cs, Row kSpan 3 A1 p.lin, Row kBm 2 A2 p.dirty, Row kVol 1 A3 p.im]) _ [_] rfl ⟨0, none, 0, [], [], rfl, Nat.zero_le _, rfl, rfl, H1⟩ ?_
    clear H H1
    rintro n _ E0 w2 ⟨i, A', c', xs, cs, rfl, hi5, rfl, hxs, H⟩
    have hxl : xs.length = i := by rw [hxs, List.length_map, List.length_take]; omega
    by_cases hi' : i < p.dirty.length
    · obtain ⟨A4, c4, hs4, _, _, H1⟩ := H.openBm (A := A2) (xs := p.dirty) mem_auto hi'
      clear H; have H := H1; clear H1
      repeat' (first | (apply l_rd; exact rd_go; rfl) | (apply q_rd; exact rd_go; rfl) | refine stp ?_ | refine bk_o rfl ?_ | refine c_true ⟨rfl, rfl⟩ ?_ | refine c_false ⟨rfl, rfl⟩ ?_ | (apply l_rdg; rfl; rfl; rfl; exact rd_go; rfl) | refine l_skip rfl rfl rfl rfl ?_ | (apply q_rdg; rfl; rfl; rfl; exact rd_go; rfl) | refine q_skip rfl rfl rfl rfl ?_ | refine c_draw H (by kernel_rfl) ?_ | (refine q_end ?_; clear H; intro _ H) | ((first | refine l_st (z_box H ?_) | refine l_st (s_alloc H rfl ?_)); clear H; intro _ _ _ H) | (refine l_st (t_build0 H rfl ?_); clear H; intro _ _ _ _ H) | (refine l_st (z_sto H ?_); clear H; intro _ H) | ((first | refine c_cond ⟨rfl, rfl⟩ ?_ ?_ | refine c_ncond ⟨rfl, rfl⟩ ?_ ?_ | refine l_split rfl rfl ?_ ?_ | refine q_split rfl rfl ?_ ?_ | refine l_nsplit rfl rfl ?_ ?_ | refine q_nsplit rfl rfl ?_ ?_) <;> intro _ <;> try (exfalso; omega)) | (refine l_st (k_call1 evs_auto H ca_Pt3 rfl ?_); clear H; intro _ _ H) | (refine l_st (k_callg1 evs_auto rfl rfl rfl H ca_Pt3 rfl ?_); clear H; intro _ _ H) | refine kq_call1 evs_auto H (fun _ H => ca_Pt3) rfl ?_ | refine kq_callg1 evs_auto rfl rfl rfl H (fun _ H => ca_Pt3) rfl ?_)
      refine l_st (k_call evs_auto H (rExtents_any _ (p.dirty[i]'hi') A4 c4 _ hs4 (H.fact _ mem_auto)) rfl ?_)
      rintro v w8 hf8 hb8 _
      obtain ⟨A9, c9, cs9, rfl, _, _, H9⟩ := H.take' hb8 hf8
      obtain ⟨s3, s4, H10⟩ := H9.sealR (dd := kExt) (xs := exts (p.dirty[i]'hi')) mem_auto hM Nat.zero_lt_two rfl (by have := (exts_B (p.dirty[i]'hi')).1; omega)
      clear H H9 hf8; have H := H10; clear H10
      repeat' (first | (apply l_rd; exact rd_go; rfl) | (apply q_rd; exact rd_go; rfl) | refine stp ?_ | refine bk_o rfl ?_ | refine c_true ⟨rfl, rfl⟩ ?_ | refine c_false ⟨rfl, rfl⟩ ?_ | (apply l_rdg; rfl; rfl; rfl; exact rd_go; rfl) | refine l_skip rfl rfl rfl rfl ?_ | (apply q_rdg; rfl; rfl; rfl; exact rd_go; rfl) | refine q_skip rfl rfl rfl rfl ?_ | refine c_draw H (by kernel_rfl) ?_ | (refine q_end ?_; clear H; intro _ H) | ((first | refine l_st (z_box H ?_) | refine l_st (s_alloc H rfl ?_)); clear H; intro _ _ _ H) | (refine l_st (t_build0 H rfl ?_); clear H; intro _ _ _ _ H) | (refine l_st (z_sto H ?_); clear H; intro _ H) | ((first | refine c_cond ⟨rfl, rfl⟩ ?_ ?_ | refine c_ncond ⟨rfl, rfl⟩ ?_ ?_ | refine l_split rfl rfl ?_ ?_ | refine q_split rfl rfl ?_ ?_ | refine l_nsplit rfl rfl ?_ ?_ | refine q_nsplit rfl rfl ?_ ?_) <;> intro _ <;> try (exfalso; omega)) | (refine l_st (k_call1 evs_auto H ca_Pt3 rfl ?_); clear H; intro _ _ H) | (refine l_st (k_callg1 evs_auto rfl rfl rfl H ca_Pt3 rfl ?_); clear H; intro _ _ H) | refine kq_call1 evs_auto H (fun _ H => ca_Pt3) rfl ?_ | refine kq_callg1 evs_auto rfl rfl rfl H (fun _ H => ca_Pt3) rfl ?_)
      refine l_apps (j := 0) (dd := kSl 2 kExt) (xs := xs) (exts (p.dirty[i]'hi')) H rfl rfl mem_auto ⟨rfl, rfl⟩ ((H.fact _ mem_auto).imp fun w' h => ⟨A9, c9, rfl, s3, s4, h⟩) rfl (fun _ => ⟨rfl, rfl⟩) (by omega) rfl ?_
      clear H; intro A10 c10 _ _ H
      repeat' (first | (apply l_rd; exact rd_go; rfl) | (apply q_rd; exact rd_go; rfl) | refine stp ?_ | refine bk_o rfl ?_ | refine c_true ⟨rfl, rfl⟩ ?_ | refine c_false ⟨rfl, rfl⟩ ?_ | (apply l_rdg; rfl; rfl; rfl; exact rd_go; rfl) | refine l_skip rfl rfl rfl rfl ?_ | (apply q_rdg; rfl; rfl; rfl; exact rd_go; rfl) | refine q_skip rfl rfl rfl rfl ?_ | refine c_draw H (by kernel_rfl) ?_ | (refine q_end ?_; clear H; intro _ H) | ((first | refine l_st (z_box H ?_) | refine l_st (s_alloc H rfl ?_)); clear H; intro _ _ _ H) | (refine l_st (t_build0 H rfl ?_); clear H; intro _ _ _ _ H) | (refine l_st (z_sto H ?_); clear H; intro _ H) | ((first | refine c_cond ⟨rfl, rfl⟩ ?_ ?_ | refine c_ncond ⟨rfl, rfl⟩ ?_ ?_ | refine l_split rfl rfl ?_ ?_ | refine q_split rfl rfl ?_ ?_ | refine l_nsplit rfl rfl ?_ ?_ | refine q_nsplit rfl rfl ?_ ?_) <;> intro _ <;> try (exfalso; omega)) | (refine l_st (k_call1 evs_auto H ca_Pt3 rfl ?_); clear H; intro _ _ H) | (refine l_st (k_callg1 evs_auto rfl rfl rfl H ca_Pt3 rfl ?_); clear H; intro _ _ H) | refine kq_call1 evs_auto H (fun _ H => ca_Pt3) rfl ?_ | refine kq_callg1 evs_auto rfl rfl rfl H (fun _ H => ca_Pt3) rfl ?_)
      exact lk_n rfl (n' := p.dirty.length - (i + 1)) (by omega) ⟨i + 1, A10, c10, xs ++ [exts (p.dirty[i]'hi')], _, rfl, hi', rfl, by rw [hxs, map_snoc hi'], H.weak (List.Sublist.refl _) (List.Sublist.refl _) (by simp)⟩
    · repeat' (first | (apply l_rd; exact rd_go; rfl) | (apply q_rd; exact rd_go; rfl) | refine stp ?_ | refine bk_o rfl ?_ | refine c_true ⟨rfl, rfl⟩ ?_ | refine c_false ⟨rfl, rfl⟩ ?_ | (apply l_rdg; rfl; rfl; rfl; exact rd_go; rfl) | refine l_skip rfl rfl rfl rfl ?_ | (apply q_rdg; rfl; rfl; rfl; exact rd_go; rfl) | refine q_skip rfl rfl rfl rfl ?_ | refine c_draw H (by kernel_rfl) ?_ | (refine q_end ?_; clear H; intro _ H) | ((first | refine l_st (z_box H ?_) | refine l_st (s_alloc H rfl ?_)); clear H; intro _ _ _ H) | (refine l_st (t_build0 H rfl ?_); clear H; intro _ _ _ _ H) | (refine l_st (z_sto H ?_); clear H; intro _ H) | ((first | refine c_cond ⟨rfl, rfl⟩ ?_ ?_ | refine c_ncond ⟨rfl, rfl⟩ ?_ ?_ | refine l_split rfl rfl ?_ ?_ | refine q_split rfl rfl ?_ ?_ | refine l_nsplit rfl rfl ?_ ?_ | refine q_nsplit rfl rfl ?_ ?_) <;> intro _ <;> try (exfalso; omega)) | (refine l_st (k_call1 evs_auto H ca_Pt3 rfl ?_); clear H; intro _ _ H) | (refine l_st (k_callg1 evs_auto rfl rfl rfl H ca_Pt3 rfl ?_); clear H; intro _ _ H) | refine kq_call1 evs_auto H (fun _ H => ca_Pt3) rfl ?_ | refine kq_callg1 evs_auto rfl rfl rfl H (fun _ H => ca_Pt3) rfl ?_)
      have e2 : xs = p.dirty.map exts := by rw [hxs, List.take_of_length_le (by omega)]
      subst e2
      refine ret2 (v := .slice _ _ _) (v' := .int _ _) H rfl rfl rfl rfl ?_
      rw [e]
      exact ⟨_, rfl, H.fresh (j := 0) rfl mem_auto rfl⟩
  · have hlast := lastTo_at (l := p.lin) (i := ((p.lin.length : Int) - 1).toNat) (by omega) (by omega)
    repeat' (first | (apply l_rd; exact rd_go; rfl) | (apply q_rd; exact rd_go; rfl) | refine stp ?_ | refine bk_o rfl ?_ | refine c_true ⟨rfl, rfl⟩ ?_ | refine c_false ⟨rfl, rfl⟩ ?_ | (apply l_rdg; rfl; rfl; rfl; exact rd_go; rfl) | refine l_skip rfl rfl rfl rfl ?_ | (apply q_rdg; rfl; rfl; rfl; exact rd_go; rfl) | refine q_skip rfl rfl rfl rfl ?_ | refine c_draw H (by kernel_rfl) ?_ | (refine q_end ?_; clear H; intro _ H) | ((first | refine l_st (z_box H ?_) | refine l_st (s_alloc H rfl ?_)); clear H; intro _ _ _ H) | (refine l_st (t_build0 H rfl ?_); clear H; intro _ _ _ _ H) | (refine l_st (z_sto H ?_); clear H; intro _ H) | ((first | refine c_cond ⟨rfl, rfl⟩ ?_ ?_ | refine c_ncond ⟨rfl, rfl⟩ ?_ ?_ | refine l_split rfl rfl ?_ ?_ | refine q_split rfl rfl ?_ ?_ | refine l_nsplit rfl rfl ?_ ?_ | refine q_nsplit rfl rfl ?_ ?_) <;> intro _ <;> try (exfalso; omega)) | (refine l_st (k_call1 evs_auto H ca_Pt3 rfl ?_); clear H; intro _ _ H) | (refine l_st (k_callg1 evs_auto rfl rfl rfl H ca_Pt3 rfl ?_); clear H; intro _ _ H) | refine kq_call1 evs_auto H (fun _ H => ca_Pt3) rfl ?_ | refine kq_callg1 evs_auto rfl rfl rfl H (fun _ H => ca_Pt3) rfl ?_)
    all_goals try (refine ret2 (v := .slice _ _ _) (v' := .int _ _) H rfl rfl rfl rfl (exts_ret0 H ?_); unfold undoSp; first | rw [if_pos (by assumption)] | rw [if_neg (by assumption), if_pos (by omega)])
    have e : undoSp p m = (p.dirty.map exts, 0) := by unfold undoSp; rw [if_neg (by assumption), if_neg (by omega)]
    have H1 := (H.own_nil 68 1).add (f := Chunks (kSl 2 kExt) 1 ([] : List (List Ext)) []) (fun _ _ _ => Chunks.nil)
    refine c_loopk [10, 9] [2] (fun n vs w' => ∃ (i : Nat) (A' : Option Addr) (c' : Nat) (xs : List (List Ext)) (cs : List Value), vs = [.int .i64 i, .slice A' xs.length c'] ∧ i ≤ p.dirty.length ∧ n = p.dirty.length - i ∧ xs = (p.dirty.take i).map exts ∧
        Hp w M w' [⟨_, [.int .i64 p.site, .slice A1 p.lin.length c1, .slice A2 p.dirty.length c2, .slice A3 p.im.length c3], _⟩] [⟨.slice A' xs.length c', 68, 1, xs.length, cs⟩] [Chunks (kSl 2 kExt) 1 xs cs, Row kSpan 3 A1 p.lin, Row kBm 2 A2 p.dirty, Row kVol 1 A3 p.im]) _ [_] rfl ⟨0, none, 0, [], [], rfl, Nat.zero_le _, rfl, rfl, H1⟩ ?_
    clear H H1
    rintro n _ E0 w2 ⟨i, A', c', xs, cs, rfl, hi5, rfl, hxs, H⟩
    have hxl : xs.length = i := by rw [hxs, List.length_map, List.length_take]; omega
    by_cases hi' : i < p.dirty.length
    · obtain ⟨A4, c4, hs4, _, _, H1⟩ := H.openBm (A := A2) (xs := p.dirty) mem_auto hi'
      clear H; have H := H1; clear H1
      repeat' (first | (apply l_rd; exact rd_go; rfl) | (apply q_rd; exact rd_go; rfl) | refine stp ?_ | refine bk_o rfl ?_ | refine c_true ⟨rfl, rfl⟩ ?_ | refine c_false ⟨rfl, rfl⟩ ?_ | (apply l_rdg; rfl; rfl; rfl; exact rd_go; rfl) | refine l_skip rfl rfl rfl rfl ?_ | (apply q_rdg; rfl; rfl; rfl; exact rd_go; rfl) | refine q_skip rfl rfl rfl rfl ?_ | refine c_draw H (by kernel_rfl) ?_ | (refine q_end ?_; clear H; intro _ H) | ((first | refine l_st (z_box H ?_) | refine l_st (s_alloc H rfl ?_)); clear H; intro _ _ _ H) | (refine l_st (t_build0 H rfl ?_); clear H; intro _ _ _ _ H) | (refine l_st (z_sto H ?_); clear H; intro _ H) | ((first | refine c_cond ⟨rfl, rfl⟩ ?_ ?_ | refine c_ncond ⟨rfl, rfl⟩ ?_ ?_ | refine l_split rfl rfl ?_ ?_ | refine q_split rfl rfl ?_ ?_ | refine l_nsplit rfl rfl ?_ ?_ | refine q_nsplit rfl rfl ?_ ?_) <;> intro _ <;> try (exfalso; omega)) | (refine l_st (k_call1 evs_auto H ca_Pt3 rfl ?_); clear H; intro _ _ H) | (refine l_st (k_callg1 evs_auto rfl rfl rfl H ca_Pt3 rfl ?_); clear H; intro _ _ H) | refine kq_call1 evs_auto H (fun _ H => ca_Pt3) rfl ?_ | refine kq_callg1 evs_auto rfl rfl rfl H (fun _ H => ca_Pt3) rfl ?_)
      refine l_st (k_call evs_auto H (rExtents_any _ (p.dirty[i]'hi') A4 c4 _ hs4 (H.fact _ mem_auto)) rfl ?_)
      rintro v w8 hf8 hb8 _
      obtain ⟨A9, c9, cs9, rfl, _, _, H9⟩ := H.take' hb8 hf8
      obtain ⟨s3, s4, H10⟩ := H9.sealR (dd := kExt) (xs := exts (p.dirty[i]'hi')) mem_auto hM Nat.zero_lt_two rfl (by have := (exts_B (p.dirty[i]'hi')).1; omega)
      clear H H9 hf8; have H := H10; clear H10
      repeat' (first | (apply l_rd; exact rd_go; rfl) | (apply q_rd; exact rd_go; rfl) | refine stp ?_ | refine bk_o rfl ?_ | refine c_true ⟨rfl, rfl⟩ ?_ | refine c_false ⟨rfl, rfl⟩ ?_ | (apply l_rdg; rfl; rfl; rfl; exact rd_go; rfl) | refine l_skip rfl rfl rfl rfl ?_ | (apply q_rdg; rfl; rfl; rfl; exact rd_go; rfl) | refine q_skip rfl rfl rfl rfl ?_ | refine c_draw H (by kernel_rfl) ?_ | (refine q_end ?_; clear H; intro _ H) | ((first | refine l_st (z_box H ?_) | refine l_st (s_alloc H rfl ?_)); clear H; intro _ _ _ H) | (refine l_st (t_build0 H rfl ?_); clear H; intro _ _ _ _ H) | (refine l_st (z_sto H ?_); clear H; intro _ H) | ((first | refine c_cond ⟨rfl, rfl⟩ ?_ ?_ | refine c_ncond ⟨rfl, rfl⟩ ?_ ?_ | refine l_split rfl rfl ?_ ?_ | refine q_split rfl rfl ?_ ?_ | refine l_nsplit rfl rfl ?_ ?_ | refine q_nsplit rfl rfl ?_ ?_) <;> intro _ <;> try (exfalso; omega)) | (refine l_st (k_call1 evs_auto H ca_Pt3 rfl ?_); clear H; intro _ _ H) | (refine l_st (k_callg1 evs_auto rfl rfl rfl H ca_Pt3 rfl ?_); clear H; intro _ _ H) | refine kq_call1 evs_auto H (fun _ H => ca_Pt3) rfl ?_ | refine kq_callg1 evs_auto rfl rfl rfl H (fun _ H => ca_Pt3) rfl ?_)
      refine l_apps (j := 0) (dd := kSl 2 kExt) (xs := xs) (exts (p.dirty[i]'hi')) H rfl rfl mem_auto ⟨rfl, rfl⟩ ((H.fact _ mem_auto).imp fun w' h => ⟨A9, c9, rfl, s3, s4, h⟩) rfl (fun _ => ⟨rfl, rfl⟩) (by omega) rfl ?_
      clear H; intro A10 c10 _ _ H
      repeat' (first | (apply l_rd; exact rd_go; rfl) | (apply q_rd; exact rd_go; rfl) | refine stp ?_ | refine bk_o rfl ?_ | refine c_true ⟨rfl, rfl⟩ ?_ | refine c_false ⟨rfl, rfl⟩ ?_ | (apply l_rdg; rfl; rfl; rfl; exact rd_go; rfl) | refine l_skip rfl rfl rfl rfl ?_ | (apply q_rdg; rfl; rfl; rfl; exact rd_go; rfl) | refine q_skip rfl rfl rfl rfl ?_ | refine c_draw H (by kernel_rfl) ?_ | (refine q_end ?_; clear H; intro _ H) | ((first | refine l_st (z_box H ?_) | refine l_st (s_alloc H rfl ?_)); clear H; intro _ _ _ H) | (refine l_st (t_build0 H rfl ?_); clear H; intro _ _ _ _ H) | (refine l_st (z_sto H ?_); clear H; intro _ H) | ((first | refine c_cond ⟨rfl, rfl⟩ ?_ ?_ | refine c_ncond ⟨rfl, rfl⟩ ?_ ?_ | refine l_split rfl rfl ?_ ?_ | refine q_split rfl rfl ?_ ?_ | refine l_nsplit rfl rfl ?_ ?_ | refine q_nsplit rfl rfl ?_ ?_) <;> intro _ <;> try (exfalso; omega)) | (refine l_st (k_call1 evs_auto H ca_Pt3 rfl ?_); clear H; intro _ _ H) | (refine l_st (k_callg1 evs_auto rfl rfl rfl H ca_Pt3 rfl ?_); clear H; intro _ _ H) | refine kq_call1 evs_auto H (fun _ H => ca_Pt3) rfl ?_ | refine kq_callg1 evs_auto rfl rfl rfl H (fun _ H => ca_Pt3) rfl ?_)
      exact lk_n rfl (n' := p.dirty.length - (i + 1)) (by omega) ⟨i + 1, A10, c10, xs ++ [exts (p.dirty[i]'hi')], _, rfl, hi', rfl, by rw [hxs, map_snoc hi'], H.weak (List.Sublist.refl _) (List.Sublist.refl _) (by simp)⟩
    · repeat' (first | (apply l_rd; exact rd_go; rfl) | (apply q_rd; exact rd_go; rfl) | refine stp ?_ | refine bk_o rfl ?_ | refine c_true ⟨rfl, rfl⟩ ?_ | refine c_false ⟨rfl, rfl⟩ ?_ | (apply l_rdg; rfl; rfl; rfl; exact rd_go; rfl) | refine l_skip rfl rfl rfl rfl ?_ | (apply q_rdg; rfl; rfl; rfl; exact rd_go; rfl) | refine q_skip rfl rfl rfl rfl ?_ | refine c_draw H (by kernel_rfl) ?_ | (refine q_end ?_; clear H; intro _ H) | ((first | refine l_st (z_box H ?_) | refine l_st (s_alloc H rfl ?_)); clear H; intro _ _ _ H) | (refine l_st (t_build0 H rfl ?_); clear H; intro _ _ _ _ H) | (refine l_st (z_sto H ?_); clear H; intro _ H) | ((first | refine c_cond ⟨rfl, rfl⟩ ?_ ?_ | refine c_ncond ⟨rfl, rfl⟩ ?_ ?_ | refine l_split rfl rfl ?_ ?_ | refine q_split rfl rfl ?_ ?_ | refine l_nsplit rfl rfl ?_ ?_ | refine q_nsplit rfl rfl ?_ ?_) <;> intro _ <;> try (exfalso; omega)) | (refine l_st (k_call1 evs_auto H ca_Pt3 rfl ?_); clear H; intro _ _ H) | (refine l_st (k_callg1 evs_auto rfl rfl rfl H ca_Pt3 rfl ?_); clear H; intro _ _ H) | refine kq_call1 evs_auto H (fun _ H => ca_Pt3) rfl ?_ | refine kq_callg1 evs_auto rfl rfl rfl H (fun _ H => ca_Pt3) rfl ?_)
      have e2 : xs = p.dirty.map exts := by rw [hxs, List.take_of_length_le (by omega)]
      subst e2
      refine ret2 (v := .slice _ _ _) (v' := .int _ _) H rfl rfl rfl rfl ?_
      rw [e]
      exact ⟨_, rfl, H.fresh (j := 0) rfl mem_auto rfl⟩
end
section
variable (M : Nat → Prop) (w : World) (hM : ∀ b, M b → b < w.heap.size) (p q : Pt) (A1 A2 A3 B1 B2 B3 : Option Addr) (c1 c2 c3 d1 d2 d3 : Nat) (hs : rng .i64 p.site) (hd : p.dirty.length ≤ 1000000) (hi : p.im.length ≤ 1000000) (hs' : rng .i64 q.site) (hd' : q.dirty.length ≤ 1000000) (hi' : q.im.length ≤ 1000000)
  (h1 : Stab w M (Row kSpan 3 A1 p.lin)) (h2 : Stab w M (Row kBm 2 A2 p.dirty)) (h3 : Stab w M (Row kVol 1 A3 p.im)) (k1 : Stab w M (Row kSpan 3 B1 q.lin)) (k2 : Stab w M (Row kBm 2 B2 q.dirty)) (k3 : Stab w M (Row kVol 1 B3 q.im)) (hT : Stab w M TabF)
include hM hs hd hi hs' hd' hi' h1 h2 h3 k1 k2 k3 hT
theorem xtents_any :
    Ret Tryd.prog 14 [.agg [.int .i64 p.site, .slice A1 p.lin.length c1, .slice A2 p.dirty.length c2, .slice A3 p.im.length c3].toArray, .agg [.int .i64 q.site, .slice B1 q.lin.length d1, .slice B2 q.dirty.length d2, .slice B3 q.im.length d3].toArray] w (ExtsRet M w (betwSp p q)) := by
  refine enter (M := M) (F := [Row kSpan 3 A1 p.lin, Row kBm 2 A2 p.dirty, Row kVol 1 A3 p.im, Row kSpan 3 B1 q.lin, Row kBm 2 B2 q.dirty, Row kVol 1 B3 q.im, TabF]) Tryd.func14 rfl rfl rfl (by simpa using ⟨h1, h2, h3, k1, k2, k3, hT⟩) fun H => ?_
  repeat' (first | (apply l_rd; exact rd_go; rfl) | (apply q_rd; exact rd_go; rfl) | refine stp ?_ | refine bk_o rfl ?_ | refine c_true ⟨rfl, rfl⟩ ?_ | refine c_false ⟨rfl, rfl⟩ ?_ | (apply l_rdg; rfl; rfl; rfl; exact rd_go; rfl) | refine l_skip rfl rfl rfl rfl ?_ | (apply q_rdg; rfl; rfl; rfl; exact rd_go; rfl) | refine q_skip rfl rfl rfl rfl ?_ | refine c_draw H (by kernel_rfl) ?_ | (refine q_end ?_; clear H; intro _ H) | ((first | refine l_st (z_box H ?_) | refine l_st (s_alloc H rfl ?_)); clear H; intro _ _ _ H) | (refine l_st (t_build0 H rfl ?_); clear H; intro _ _ _ _ H) | (refine l_st (z_sto H ?_); clear H; intro _ H) | ((first | refine c_cond ⟨rfl, rfl⟩ ?_ ?_ | refine c_ncond ⟨rfl, rfl⟩ ?_ ?_ | refine l_split rfl rfl ?_ ?_ | refine q_split rfl rfl ?_ ?_ | refine l_nsplit rfl rfl ?_ ?_ | refine q_nsplit rfl rfl ?_ ?_) <;> intro _ <;> try (exfalso; omega)) | (refine l_st (k_call1 evs_auto H ca_Pt3 rfl ?_); clear H; intro _ _ H) | (refine l_st (k_callg1 evs_auto rfl rfl rfl H ca_Pt3 rfl ?_); clear H; intro _ _ H) | refine kq_call1 evs_auto H (fun _ H => ca_Pt3) rfl ?_ | refine kq_callg1 evs_auto rfl rfl rfl H (fun _ H => ca_Pt3) rfl ?_)
  refine l_st (k_call evs_auto H (between_any _ _ (H.mu_lt hM) p q A1 A2 A3 B1 B2 B3 c1 c2 c3 d1 d2 d3 hs hd hi hs' hd' hi' (H.fact _ mem_auto) (H.fact _ mem_auto) (H.fact _ mem_auto) (H.fact _ mem_auto) (H.fact _ mem_auto) (H.fact _ mem_auto) (H.fact _ mem_auto)) rfl ?_)
  rintro _ w1 ⟨v1, rfl, hf⟩ hb _
  obtain ⟨A, c, cs, rfl, _, _, H1⟩ := H.take' hb hf
  clear H; have H := H1; clear H1
  repeat' (first | (apply l_rd; exact rd_go; rfl) | (apply q_rd; exact rd_go; rfl) | refine stp ?_ | refine bk_o rfl ?_ | refine c_true ⟨rfl, rfl⟩ ?_ | refine c_false ⟨rfl, rfl⟩ ?_ | (apply l_rdg; rfl; rfl; rfl; exact rd_go; rfl) | refine l_skip rfl rfl rfl rfl ?_ | (apply q_rdg; rfl; rfl; rfl; exact rd_go; rfl) | refine q_skip rfl rfl rfl rfl ?_ | refine c_draw H (by kernel_rfl) ?_ | (refine q_end ?_; clear H; intro _ H) | ((first | refine l_st (z_box H ?_) | refine l_st (s_alloc H rfl ?_)); clear H; intro _ _ _ H) | (refine l_st (t_build0 H rfl ?_); clear H; intro _ _ _ _ H) | (refine l_st (z_sto H ?_); clear H; intro _ H) | ((first | refine c_cond ⟨rfl, rfl⟩ ?_ ?_ | refine c_ncond ⟨rfl, rfl⟩ ?_ ?_ | refine l_split rfl rfl ?_ ?_ | refine q_split rfl rfl ?_ ?_ | refine l_nsplit rfl rfl ?_ ?_ | refine q_nsplit rfl rfl ?_ ?_) <;> intro _ <;> try (exfalso; omega)) | (refine l_st (k_call1 evs_auto H ca_Pt3 rfl ?_); clear H; intro _ _ H) | (refine l_st (k_callg1 evs_auto rfl rfl rfl H ca_Pt3 rfl ?_); clear H; intro _ _ H) | refine kq_call1 evs_auto H (fun _ H => ca_Pt3) rfl ?_ | refine kq_callg1 evs_auto rfl rfl rfl H (fun _ H => ca_Pt3) rfl ?_)
  exact ret2 (v := .slice _ _ _) (v' := .int _ _) H rfl rfl rfl rfl ⟨_, rfl, H.fresh (j := 0) rfl (List.mem_cons_self ..) rfl⟩
theorem rXtents_any :
    Ret Tryd.prog 15 [.agg [.int .i64 p.site, .slice A1 p.lin.length c1, .slice A2 p.dirty.length c2, .slice A3 p.im.length c3].toArray, .agg [.int .i64 q.site, .slice B1 q.lin.length d1, .slice B2 q.dirty.length d2, .slice B3 q.im.length d3].toArray] w (ExtsRet M w (betwSp p q)) := by
  refine enter (M := M) (F := [Row kSpan 3 A1 p.lin, Row kBm 2 A2 p.dirty, Row kVol 1 A3 p.im, Row kSpan 3 B1 q.lin, Row kBm 2 B2 q.dirty, Row kVol 1 B3 q.im, TabF]) Tryd.func15 rfl rfl rfl (by simpa using ⟨h1, h2, h3, k1, k2, k3, hT⟩) fun H => ?_
  repeat' (first | (apply l_rd; exact rd_go; rfl) | (apply q_rd; exact rd_go; rfl) | refine stp ?_ | refine bk_o rfl ?_ | refine c_true ⟨rfl, rfl⟩ ?_ | refine c_false ⟨rfl, rfl⟩ ?_ | (apply l_rdg; rfl; rfl; rfl; exact rd_go; rfl) | refine l_skip rfl rfl rfl rfl ?_ | (apply q_rdg; rfl; rfl; rfl; exact rd_go; rfl) | refine q_skip rfl rfl rfl rfl ?_ | refine c_draw H (by kernel_rfl) ?_ | (refine q_end ?_; clear H; intro _ H) | ((first | refine l_st (z_box H ?_) | refine l_st (s_alloc H rfl ?_)); clear H; intro _ _ _ H) | (refine l_st (t_build0 H rfl ?_); clear H; intro _ _ _ _ H) | (refine l_st (z_sto H ?_); clear H; intro _ H) | ((first | refine c_cond ⟨rfl, rfl⟩ ?_ ?_ | refine c_ncond ⟨rfl, rfl⟩ ?_ ?_ | refine l_split rfl rfl ?_ ?_ | refine q_split rfl rfl ?_ ?_ | refine l_nsplit rfl rfl ?_ ?_ | refine q_nsplit rfl rfl ?_ ?_) <;> intro _ <;> try (exfalso; omega)) | (refine l_st (k_call1 evs_auto H ca_Pt3 rfl ?_); clear H; intro _ _ H) | (refine l_st (k_callg1 evs_auto rfl rfl rfl H ca_Pt3 rfl ?_); clear H; intro _ _ H) | refine kq_call1 evs_auto H (fun _ H => ca_Pt3) rfl ?_ | refine kq_callg1 evs_auto rfl rfl rfl H (fun _ H => ca_Pt3) rfl ?_)
  refine l_st (k_call evs_auto H (rBetween_any _ _ (H.mu_lt hM) p q A1 A2 A3 B1 B2 B3 c1 c2 c3 d1 d2 d3 hs hd hi hs' hd' hi' (H.fact _ mem_auto) (H.fact _ mem_auto) (H.fact _ mem_auto) (H.fact _ mem_auto) (H.fact _ mem_auto) (H.fact _ mem_auto)) rfl ?_)
  rintro _ w1 ⟨v1, rfl, hf⟩ hb _
  obtain ⟨A, c, cs, rfl, _, _, H1⟩ := H.take' hb hf
  clear H; have H := H1; clear H1
  repeat' (first | (apply l_rd; exact rd_go; rfl) | (apply q_rd; exact rd_go; rfl) | refine stp ?_ | refine bk_o rfl ?_ | refine c_true ⟨rfl, rfl⟩ ?_ | refine c_false ⟨rfl, rfl⟩ ?_ | (apply l_rdg; rfl; rfl; rfl; exact rd_go; rfl) | refine l_skip rfl rfl rfl rfl ?_ | (apply q_rdg; rfl; rfl; rfl; exact rd_go; rfl) | refine q_skip rfl rfl rfl rfl ?_ | refine c_draw H (by kernel_rfl) ?_ | (refine q_end ?_; clear H; intro _ H) | ((first | refine l_st (z_box H ?_) | refine l_st (s_alloc H rfl ?_)); clear H; intro _ _ _ H) | (refine l_st (t_build0 H rfl ?_); clear H; intro _ _ _ _ H) | (refine l_st (z_sto H ?_); clear H; intro _ H) | ((first | refine c_cond ⟨rfl, rfl⟩ ?_ ?_ | refine c_ncond ⟨rfl, rfl⟩ ?_ ?_ | refine l_split rfl rfl ?_ ?_ | refine q_split rfl rfl ?_ ?_ | refine l_nsplit rfl rfl ?_ ?_ | refine q_nsplit rfl rfl ?_ ?_) <;> intro _ <;> try (exfalso; omega)) | (refine l_st (k_call1 evs_auto H ca_Pt3 rfl ?_); clear H; intro _ _ H) | (refine l_st (k_callg1 evs_auto rfl rfl rfl H ca_Pt3 rfl ?_); clear H; intro _ _ H) | refine kq_call1 evs_auto H (fun _ H => ca_Pt3) rfl ?_ | refine kq_callg1 evs_auto rfl rfl rfl H (fun _ H => ca_Pt3) rfl ?_)
  exact ret2 (v := .slice _ _ _) (v' := .int _ _) H rfl rfl rfl rfl ⟨_, rfl, H.fresh (j := 0) rfl (List.mem_cons_self ..) rfl⟩
end
end Go.Proofs.YtiolpldihoghiaaDoor

namespace Go.Proofs.YtiolpldihoghiaaDoor
open Go.RowKit
set_option linter.unusedVariables false
set_option linter.unusedSimpArgs false
set_option maxHeartbeats 4000000
theorem ca_Wr1 {k : FuncId} {vs : List Value} {w1 : World} {v : Value} (h : Ret Tryd.prog k vs w1 (fun u _ => u = v) := by first | exact imCheck_any _ _ _ _ _ (by omega) (H.fact _ mem_auto) | exact rImCheck_any _ _ _ _ _ (by omega) (H.fact _ mem_auto) | exact fits_at _ _ _ _ _ _ _ _ (by assumption) (by assumption) (by omega) (by omega) (H.fact _ mem_auto)) : Ret Tryd.prog k vs w1 (fun u _ => u = v) := h
section
variable {w0 w : World} {M : Nat → Prop} {L : List Loc} {O : List Own} {F : List (World → Prop)}
theorem Stab.wr {x : Wr} {cs : List Value} (h : Stab w M (fun w' => kWr w' x cs)) :
    ∃ A c, cs = [.int .i64 x.vol, .int .i64 x.start, .slice A x.data.length c] ∧ rng .i64 x.vol ∧ rng .i64 x.start ∧ x.data.length ≤ c ∧ c ≤ 9223372036854775807 ∧ Stab w M (Row kSec 8 A x.data) := by
  obtain ⟨A, c, h1, r1, r2, h2, h3, _⟩ := h.now
  refine ⟨A, c, h1, r1, r2, h2, h3, fun w' hs hw => ?_⟩
  obtain ⟨A2, c2, q1, _, _, _, _, q4⟩ := h w' hs hw
  rw [h1] at q1
  simp only [List.cons.injEq, Value.slice.injEq] at q1
  obtain ⟨_, _, ⟨e1, _, _⟩, _⟩ := q1
  subst e1
  exact q4
theorem Hp.openWr {A : Option Addr} {xs : List Wr} {i : Nat} (H : Hp w0 M w L O F) (hm : Row kWr 3 A xs ∈ F) (hi : i < xs.length) :
    ∃ A' c', rng .i64 (xs[i]'hi).vol ∧ rng .i64 (xs[i]'hi).start ∧ (xs[i]'hi).data.length ≤ c' ∧ c' ≤ 9223372036854775807 ∧ Hp w0 M w L O (Row kSec 8 A' (xs[i]'hi).data :: Cel A i 3 [.int .i64 (xs[i]'hi).vol, .int .i64 (xs[i]'hi).start, .slice A' (xs[i]'hi).data.length c'] :: F) := by
  obtain ⟨cs, _, hd, H1⟩ := H.openE hm (Nat.zero_lt_succ 2) (List.getElem?_eq_getElem hi)
  obtain ⟨A', c', rfl, r1, r2, h2, h3, h4⟩ := hd.wr
  exact ⟨A', c', r1, r2, h2, h3, H1.add h4⟩
end
section
variable {sizes : List Int} {x : Wr} {n : Int}
theorem fe7 (h : x.vol < 0 ∨ (sizes.length : Int) ≤ x.vol) : 7 = fitsErr sizes x := by unfold fitsErr; rw [if_pos h]
theorem fe1 (h : ¬ (x.vol < 0 ∨ (sizes.length : Int) ≤ x.vol)) (h1 : x.data.length = 0) : 1 = fitsErr sizes x := by unfold fitsErr; rw [if_neg h, if_pos h1]
theorem fe2 (hn : (sizes[x.vol.toNat]?).getD 0 = n) (h : ¬ (x.vol < 0 ∨ (sizes.length : Int) ≤ x.vol)) (h1 : ¬ x.data.length = 0) (h2 : x.start < 0 ∨ n - x.data.length < x.start) : 2 = fitsErr sizes x := by unfold fitsErr; rw [if_neg h, if_neg h1, hn, if_pos h2]
theorem fe0 (hn : (sizes[x.vol.toNat]?).getD 0 = n) (h : ¬ (x.vol < 0 ∨ (sizes.length : Int) ≤ x.vol)) (h1 : ¬ x.data.length = 0) (h2 : ¬ (x.start < 0 ∨ n - x.data.length < x.start)) : 0 = fitsErr sizes x := by unfold fitsErr; rw [if_neg h, if_neg h1, hn, if_neg h2]
theorem fits_in (h : fitsErr sizes x = 0) (hz : sizesErr sizes = 0) : 0 ≤ x.vol ∧ x.vol < sizes.length ∧ 0 < x.data.length ∧ 0 ≤ x.start ∧ x.start + x.data.length ≤ 4096 := by
  obtain ⟨h1, h2, h3⟩ := sizesErr_zero hz
  unfold fitsErr at h
  split at h
  · cases h
  · split at h
    · cases h
    · split at h
      · cases h
      · rename_i q1 q2 q3
        have := h3 (sizes[x.vol.toNat]'(by omega)) (List.getElem_mem _)
        rw [List.getElem?_eq_getElem (by omega), Option.getD_some] at q3
        omega
end
theorem sizes_get {im : List (List Sec)} {k : Nat} (h : k < im.length) : ((sizesOf im)[k]?).getD 0 = (im[k].length : Int) := by
  rw [List.getElem?_eq_getElem (by rw [sizesOf_len]; exact h), sizesOf_at h]; rfl
theorem fits_at (M : Nat → Prop) (im : List (List Sec)) (x : Wr) (A B : Option Addr) (c d : Nat) (w : World) (h1 : rng .i64 x.vol) (h2 : rng .i64 x.start) (hl : x.data.length ≤ 140737488355328) (hil : im.length ≤ 1000000) (hF : Stab w M (Row kVol 1 A im)) :
    Ret Tryd.prog 113 [.slice A im.length c, .agg [.int .i64 x.vol, .int .i64 x.start, .slice B x.data.length d].toArray] w fun v _ => v = .int .i64 (fitsErr (sizesOf im) x) := by
  have hv := vol_len hF
  have hsl := sizesOf_len im
  refine enter (M := M) (F := [Row kVol 1 A im]) Tryd.func113 rfl rfl rfl (by simpa using hF) fun H => ?_
  by_cases hin : 0 ≤ x.vol ∧ x.vol < im.length
  · obtain ⟨A4, c4, _, _, H1⟩ := H.openS (A := A) (xs := im) (i := x.vol.toNat) mem_auto (by omega)
    clear H; have H := H1; clear H1
    have hn := sizes_get (im := im) (k := x.vol.toNat) (by omega)
    have hb := hv _ (List.getElem_mem (by omega : x.vol.toNat < im.length))
    repeat' (first | (apply l_rd; exact rd_go; rfl) | (apply q_rd; exact rd_go; rfl) | refine stp ?_ | refine bk_o rfl ?_ | refine c_true ⟨rfl, rfl⟩ ?_ | refine c_false ⟨rfl, rfl⟩ ?_ | (apply l_rdg; rfl; rfl; rfl; exact rd_go; rfl) | refine l_skip rfl rfl rfl rfl ?_ | (apply q_rdg; rfl; rfl; rfl; exact rd_go; rfl) | refine q_skip rfl rfl rfl rfl ?_ | refine c_draw H (by kernel_rfl) ?_ | (refine q_end ?_; clear H; intro _ H) | ((first | refine l_st (z_box H ?_) | refine l_st (s_alloc H rfl ?_)); clear H; intro _ _ _ H) | (refine l_st (t_build0 H rfl ?_); clear H; intro _ _ _ _ H) | (refine l_st (z_sto H ?_); clear H; intro _ H) | ((first | refine c_cond ⟨rfl, rfl⟩ ?_ ?_ | refine c_ncond ⟨rfl, rfl⟩ ?_ ?_ | refine l_split rfl rfl ?_ ?_ | refine q_split rfl rfl ?_ ?_ | refine l_nsplit rfl rfl ?_ ?_ | refine q_nsplit rfl rfl ?_ ?_) <;> intro _ <;> try (exfalso; omega)) | (refine l_st (k_call1 evs_auto H ca_Wr1 rfl ?_); clear H; intro _ _ H) | (refine l_st (k_callg1 evs_auto rfl rfl rfl H ca_Wr1 rfl ?_); clear H; intro _ _ H) | refine kq_call1 evs_auto H (fun _ H => ca_Wr1) rfl ?_ | refine kq_callg1 evs_auto rfl rfl rfl H (fun _ H => ca_Wr1) rfl ?_)
    all_goals ((refine ret1 H rfl rfl rfl ?_; refine iv ?_); first | exact fe1 (by omega) (by omega) | exact fe2 hn (by omega) (by omega) (by omega) | exact fe0 hn (by omega) (by omega) (by omega))
  · repeat' (first | (apply l_rd; exact rd_go; rfl) | (apply q_rd; exact rd_go; rfl) | refine stp ?_ | refine bk_o rfl ?_ | refine c_true ⟨rfl, rfl⟩ ?_ | refine c_false ⟨rfl, rfl⟩ ?_ | (apply l_rdg; rfl; rfl; rfl; exact rd_go; rfl) | refine l_skip rfl rfl rfl rfl ?_ | (apply q_rdg; rfl; rfl; rfl; exact rd_go; rfl) | refine q_skip rfl rfl rfl rfl ?_ | refine c_draw H (by kernel_rfl) ?_ | (refine q_end ?_; clear H; intro _ H) | ((first | refine l_st (z_box H ?_) | refine l_st (s_alloc H rfl ?_)); clear H; intro _ _ _ H) | (refine l_st (t_build0 H rfl ?_); clear H; intro _ _ _ _ H) | (refine l_st (z_sto H ?_); clear H; intro _ H) | ((first | refine c_cond ⟨rfl, rfl⟩ ?_ ?_ | refine c_ncond ⟨rfl, rfl⟩ ?_ ?_ | refine l_split rfl rfl ?_ ?_ | refine q_split rfl rfl ?_ ?_ | refine l_nsplit rfl rfl ?_ ?_ | refine q_nsplit rfl rfl ?_ ?_) <;> intro _ <;> try (exfalso; omega)) | (refine l_st (k_call1 evs_auto H ca_Wr1 rfl ?_); clear H; intro _ _ H) | (refine l_st (k_callg1 evs_auto rfl rfl rfl H ca_Wr1 rfl ?_); clear H; intro _ _ H) | refine kq_call1 evs_auto H (fun _ H => ca_Wr1) rfl ?_ | refine kq_callg1 evs_auto rfl rfl rfl H (fun _ H => ca_Wr1) rfl ?_)
    all_goals ((refine ret1 H rfl rfl rfl ?_; refine iv ?_); exact fe7 (by omega))
theorem rFits_at (M : Nat → Prop) (sizes : List Int) (x : Wr) (A B : Option Addr) (c d : Nat) (w : World) (h1 : rng .i64 x.vol) (h2 : rng .i64 x.start) (hl : x.data.length ≤ 140737488355328) (hF : Stab w M (Row (kInt .i64) 1 A sizes)) :
    Ret Tryd.prog 74 [.slice A sizes.length c, .agg [.int .i64 x.vol, .int .i64 x.start, .slice B x.data.length d].toArray] w fun v _ => v = .int .i64 (fitsErr sizes x) := by
  have hr := rng_row hF
  have hsl := hF.now.len
  refine enter (M := M) (F := [Row (kInt .i64) 1 A sizes]) Tryd.func74 rfl rfl rfl (by simpa using hF) fun H => ?_
  by_cases hin : 0 ≤ x.vol ∧ x.vol < sizes.length
  · have hn : (sizes[x.vol.toNat]?).getD 0 = sizes[x.vol.toNat]'(by omega) := by rw [List.getElem?_eq_getElem (by omega)]; rfl
    have hb := hr _ (List.getElem_mem (by omega : x.vol.toNat < sizes.length))
    simp only [rng] at hb
    repeat' (first | (apply l_rd; exact rd_go; rfl) | (apply q_rd; exact rd_go; rfl) | refine stp ?_ | refine bk_o rfl ?_ | refine c_true ⟨rfl, rfl⟩ ?_ | refine c_false ⟨rfl, rfl⟩ ?_ | (apply l_rdg; rfl; rfl; rfl; exact rd_go; rfl) | refine l_skip rfl rfl rfl rfl ?_ | (apply q_rdg; rfl; rfl; rfl; exact rd_go; rfl) | refine q_skip rfl rfl rfl rfl ?_ | refine c_draw H (by kernel_rfl) ?_ | (refine q_end ?_; clear H; intro _ H) | ((first | refine l_st (z_box H ?_) | refine l_st (s_alloc H rfl ?_)); clear H; intro _ _ _ H) | (refine l_st (t_build0 H rfl ?_); clear H; intro _ _ _ _ H) | (refine l_st (z_sto H ?_); clear H; intro _ H) | ((first | refine c_cond ⟨rfl, rfl⟩ ?_ ?_ | refine c_ncond ⟨rfl, rfl⟩ ?_ ?_ | refine l_split rfl rfl ?_ ?_ | refine q_split rfl rfl ?_ ?_ | refine l_nsplit rfl rfl ?_ ?_ | refine q_nsplit rfl rfl ?_ ?_) <;> intro _ <;> try (exfalso; omega)) | (refine l_st (k_call1 evs_auto H ca_Wr1 rfl ?_); clear H; intro _ _ H) | (refine l_st (k_callg1 evs_auto rfl rfl rfl H ca_Wr1 rfl ?_); clear H; intro _ _ H) | refine kq_call1 evs_auto H (fun _ H => ca_Wr1) rfl ?_ | refine kq_callg1 evs_auto rfl rfl rfl H (fun _ H => ca_Wr1) rfl ?_)
    all_goals ((refine ret1 H rfl rfl rfl ?_; refine iv ?_); first | exact fe1 (by omega) (by omega) | exact fe2 hn (by omega) (by omega) (by omega) | exact fe0 hn (by omega) (by omega) (by omega))
  · repeat' (first | (apply l_rd; exact rd_go; rfl) | (apply q_rd; exact rd_go; rfl) | refine stp ?_ | refine bk_o rfl ?_ | refine c_true ⟨rfl, rfl⟩ ?_ | refine c_false ⟨rfl, rfl⟩ ?_ | (apply l_rdg; rfl; rfl; rfl; exact rd_go; rfl) | refine l_skip rfl rfl rfl rfl ?_ | (apply q_rdg; rfl; rfl; rfl; exact rd_go; rfl) | refine q_skip rfl rfl rfl rfl ?_ | refine c_draw H (by kernel_rfl) ?_ | (refine q_end ?_; clear H; intro _ H) | ((first | refine l_st (z_box H ?_) | refine l_st (s_alloc H rfl ?_)); clear H; intro _ _ _ H) | (refine l_st (t_build0 H rfl ?_); clear H; intro _ _ _ _ H) | (refine l_st (z_sto H ?_); clear H; intro _ H) | ((first | refine c_cond ⟨rfl, rfl⟩ ?_ ?_ | refine c_ncond ⟨rfl, rfl⟩ ?_ ?_ | refine l_split rfl rfl ?_ ?_ | refine q_split rfl rfl ?_ ?_ | refine l_nsplit rfl rfl ?_ ?_ | refine q_nsplit rfl rfl ?_ ?_) <;> intro _ <;> try (exfalso; omega)) | (refine l_st (k_call1 evs_auto H ca_Wr1 rfl ?_); clear H; intro _ _ H) | (refine l_st (k_callg1 evs_auto rfl rfl rfl H ca_Wr1 rfl ?_); clear H; intro _ _ H) | refine kq_call1 evs_auto H (fun _ H => ca_Wr1) rfl ?_ | refine kq_callg1 evs_auto rfl rfl rfl H (fun _ H => ca_Wr1) rfl ?_)
    all_goals ((refine ret1 H rfl rfl rfl ?_; refine iv ?_); exact fe7 (by omega))
theorem fitsIm_any (M : Nat → Prop) (im : List (List Sec)) (x : Wr) (A B : Option Addr) (c d : Nat) (w : World) (h1 : rng .i64 x.vol) (h2 : rng .i64 x.start) (hl : x.data.length ≤ 140737488355328) (hil : im.length ≤ 1000000) (hF : Stab w M (Row kVol 1 A im)) :
    Ret Tryd.prog 144 [.slice A im.length c, .agg [.int .i64 x.vol, .int .i64 x.start, .slice B x.data.length d].toArray] w fun v _ => v = .int .i64 (if imErr im ≠ 0 then imErr im else fitsErr (sizesOf im) x) := by
  refine enter (M := M) (F := [Row kVol 1 A im]) Tryd.func144 rfl rfl rfl (by simpa using hF) fun H => ?_
  repeat' (first | (apply l_rd; exact rd_go; rfl) | (apply q_rd; exact rd_go; rfl) | refine stp ?_ | refine bk_o rfl ?_ | refine c_true ⟨rfl, rfl⟩ ?_ | refine c_false ⟨rfl, rfl⟩ ?_ | (apply l_rdg; rfl; rfl; rfl; exact rd_go; rfl) | refine l_skip rfl rfl rfl rfl ?_ | (apply q_rdg; rfl; rfl; rfl; exact rd_go; rfl) | refine q_skip rfl rfl rfl rfl ?_ | refine c_draw H (by kernel_rfl) ?_ | (refine q_end ?_; clear H; intro _ H) | ((first | refine l_st (z_box H ?_) | refine l_st (s_alloc H rfl ?_)); clear H; intro _ _ _ H) | (refine l_st (t_build0 H rfl ?_); clear H; intro _ _ _ _ H) | (refine l_st (z_sto H ?_); clear H; intro _ H) | ((first | refine c_cond ⟨rfl, rfl⟩ ?_ ?_ | refine c_ncond ⟨rfl, rfl⟩ ?_ ?_ | refine l_split rfl rfl ?_ ?_ | refine q_split rfl rfl ?_ ?_ | refine l_nsplit rfl rfl ?_ ?_ | refine q_nsplit rfl rfl ?_ ?_) <;> intro _ <;> try (exfalso; omega)) | (refine l_st (k_call1 evs_auto H ca_Wr1 rfl ?_); clear H; intro _ _ H) | (refine l_st (k_callg1 evs_auto rfl rfl rfl H ca_Wr1 rfl ?_); clear H; intro _ _ H) | refine kq_call1 evs_auto H (fun _ H => ca_Wr1) rfl ?_ | refine kq_callg1 evs_auto rfl rfl rfl H (fun _ H => ca_Wr1) rfl ?_)
  · (refine ret1 H rfl rfl rfl ?_; refine iv ?_); rw [if_pos (by assumption)]
  · (refine ret1 H rfl rfl rfl ?_; refine iv ?_); rw [if_neg (by assumption)]
theorem rFitsIm_any (M : Nat → Prop) (im : List (List Sec)) (x : Wr) (A B : Option Addr) (c d : Nat) (w : World) (h1 : rng .i64 x.vol) (h2 : rng .i64 x.start) (hl : x.data.length ≤ 140737488355328) (hil : im.length ≤ 1000000) (hF : Stab w M (Row kVol 1 A im)) :
    Ret Tryd.prog 109 [.slice A im.length c, .agg [.int .i64 x.vol, .int .i64 x.start, .slice B x.data.length d].toArray] w fun v _ => v = .int .i64 (if imErr im ≠ 0 then imErr im else fitsErr (sizesOf im) x) := by
  refine enter (M := M) (F := [Row kVol 1 A im]) Tryd.func109 rfl rfl rfl (by simpa using hF) fun H => ?_
  repeat' (first | (apply l_rd; exact rd_go; rfl) | (apply q_rd; exact rd_go; rfl) | refine stp ?_ | refine bk_o rfl ?_ | refine c_true ⟨rfl, rfl⟩ ?_ | refine c_false ⟨rfl, rfl⟩ ?_ | (apply l_rdg; rfl; rfl; rfl; exact rd_go; rfl) | refine l_skip rfl rfl rfl rfl ?_ | (apply q_rdg; rfl; rfl; rfl; exact rd_go; rfl) | refine q_skip rfl rfl rfl rfl ?_ | (refine q_end ?_; clear H; intro _ H) | ((first | refine l_st (z_box H ?_) | refine l_st (s_alloc H rfl ?_)); clear H; intro _ _ _ H) | (refine l_st (t_build0 H rfl ?_); clear H; intro _ _ _ _ H) | (refine l_st (z_sto H ?_); clear H; intro _ H) | ((first | refine c_cond ⟨rfl, rfl⟩ ?_ ?_ | refine c_ncond ⟨rfl, rfl⟩ ?_ ?_ | refine l_split rfl rfl ?_ ?_ | refine q_split rfl rfl ?_ ?_ | refine l_nsplit rfl rfl ?_ ?_ | refine q_nsplit rfl rfl ?_ ?_) <;> intro _ <;> try (exfalso; omega)) | (refine l_st (k_call1 evs_auto H ca_Wr1 rfl ?_); clear H; intro _ _ H) | (refine l_st (k_callg1 evs_auto rfl rfl rfl H ca_Wr1 rfl ?_); clear H; intro _ _ H) | refine kq_call1 evs_auto H (fun _ H => ca_Wr1) rfl ?_ | refine kq_callg1 evs_auto rfl rfl rfl H (fun _ H => ca_Wr1) rfl ?_)
  · (refine ret1 H rfl rfl rfl ?_; refine iv ?_); rw [if_pos (by assumption)]
  refine c_mix H [] ?_
  clear H; intro w3 H
  (apply m_rd (i := 0) rfl (by decide +kernel) (by first | exact Below.refl _ _ | assumption); exact rd_go; rfl); (apply m_rd (i := 2) rfl (by decide +kernel) (by first | exact Below.refl _ _ | assumption); exact rd_go; rfl)
  refine m_one (i := 1) (by kernel_rfl) rfl (k_call evs_auto H (rSizesOf_any _ im _ _ _ hil (H.fact _ mem_auto)) rfl ?_)
  intro v w4 hf hb4 _
  obtain ⟨A1, c1, cs, rfl, _, _, H1⟩ := H.take' hb4 hf
  obtain rfl := chunks_int (H1.fact _ (List.mem_cons_self ..)).now
  clear H hf; have H := H1; clear H1
  refine ⟨fun _ => hb4, ?_⟩
  refine m_one (i := 3) (by kernel_rfl) rfl (k_call1 evs_auto H (rFits_at _ (sizesOf im) x A1 B c1 d _ h1 h2 hl (H.own_row0 (j := 0) rfl (sizesOf_rng (vol_len hF)) rfl (by simp [sizesOf]; omega))) rfl ?_)
  intro w5 hb5 H5
  refine ⟨fun _ => hb4.trans (hb5.mono hb4.size), ?_⟩
  clear H; have H := H5; clear H5
  (apply m_pure (i := 4) rfl (by decide +kernel); intro _; exact rd_go; rfl)
  refine m_end (by kernel_rfl) ?_
  repeat' (first | (apply l_rd; exact rd_go; rfl) | (apply q_rd; exact rd_go; rfl) | refine stp ?_ | refine bk_o rfl ?_ | refine c_true ⟨rfl, rfl⟩ ?_ | refine c_false ⟨rfl, rfl⟩ ?_ | (apply l_rdg; rfl; rfl; rfl; exact rd_go; rfl) | refine l_skip rfl rfl rfl rfl ?_ | (apply q_rdg; rfl; rfl; rfl; exact rd_go; rfl) | refine q_skip rfl rfl rfl rfl ?_ | (refine q_end ?_; clear H; intro _ H) | ((first | refine l_st (z_box H ?_) | refine l_st (s_alloc H rfl ?_)); clear H; intro _ _ _ H) | (refine l_st (t_build0 H rfl ?_); clear H; intro _ _ _ _ H) | (refine l_st (z_sto H ?_); clear H; intro _ H) | ((first | refine c_cond ⟨rfl, rfl⟩ ?_ ?_ | refine c_ncond ⟨rfl, rfl⟩ ?_ ?_ | refine l_split rfl rfl ?_ ?_ | refine q_split rfl rfl ?_ ?_ | refine l_nsplit rfl rfl ?_ ?_ | refine q_nsplit rfl rfl ?_ ?_) <;> intro _ <;> try (exfalso; omega)) | (refine l_st (k_call1 evs_auto H ca_Wr1 rfl ?_); clear H; intro _ _ H) | (refine l_st (k_callg1 evs_auto rfl rfl rfl H ca_Wr1 rfl ?_); clear H; intro _ _ H) | refine kq_call1 evs_auto H (fun _ H => ca_Wr1) rfl ?_ | refine kq_callg1 evs_auto rfl rfl rfl H (fun _ H => ca_Wr1) rfl ?_)
  (refine ret1 H rfl rfl rfl ?_; refine iv ?_); rw [if_neg (by assumption)]
end Go.Proofs.YtiolpldihoghiaaDoor

namespace Go.Proofs.YtiolpldihoghiaaDoor
open Go.RowKit
set_option linter.unusedVariables false
set_option linter.unusedSimpArgs false
set_option maxHeartbeats 4000000
-- @UNDEF
theorem ca_Wr2 {k : FuncId} {vs : List Value} {w1 : World} {v : Value} (h : Ret Tryd.prog k vs w1 (fun u _ => u = v) := by first | exact checkSizes_any _ _ _ _ _ (H.fact _ mem_auto) | exact rSizes_any _ _ _ _ _ (H.fact _ mem_auto)) : Ret Tryd.prog k vs w1 (fun u _ => u = v) := h
def zs : Sec := List.replicate 8 0
def fSec (s : Sec) : List Value := s.map (Value.int .u8)
def zVol (n : Int) : List Sec := List.replicate n.toNat zs
def zIm (sizes : List Int) : List (List Sec) := sizes.map zVol
theorem zVol_cells (n : Nat) : (List.replicate n zs).flatMap fSec = List.replicate (n * 8) (Value.int .u8 0) := by
  induction n with
  | zero => rfl
  | succ n ih =>
    rw [List.replicate_succ, List.flatMap_cons, ih, show fSec zs = List.replicate 8 (Value.int .u8 0) from rfl, List.replicate_append_replicate]
    congr 1; omega
theorem zs_k (w : World) : kSec w zs (fSec zs) := ⟨rfl, rfl, fun x hx => by rw [(List.mem_replicate.1 hx).2]; simp [rng]⟩
theorem zVol_chunks (n : Nat) (w : World) : Chunks kSec 8 (List.replicate n zs) (List.replicate (n * 8) (Value.int .u8 0)) w := by
  refine ⟨by simp, fun i x hx => ?_⟩
  have hi := (List.getElem?_eq_some_iff.1 hx).1
  rw [List.length_replicate] at hi
  rw [List.getElem?_replicate, if_pos hi] at hx
  injection hx with hx; subst hx
  have e : ((List.replicate (n * 8) (Value.int .u8 0)).drop (i * 8)).take 8 = fSec zs := by
    rw [List.drop_replicate, List.take_replicate, show min 8 (n * 8 - i * 8) = 8 from by omega]; rfl
  rw [e]; exact zs_k w
theorem new1_any (M : Nat → Prop) (n : Int) (w : World) (h : 0 ≤ n ∧ n ≤ 4096) : Ret Tryd.prog 139 [.int .i64 n] w fun v w' => Fresh kSec 71 8 M w (zVol n) v w' := by
  refine enter (M := M) (F := []) Tryd.func139 rfl rfl rfl (by simp) fun H => ?_
  repeat' (first | (apply l_rd; exact rd_go; rfl) | (apply q_rd; exact rd_go; rfl) | refine stp ?_ | refine bk_o rfl ?_ | refine c_true ⟨rfl, rfl⟩ ?_ | refine c_false ⟨rfl, rfl⟩ ?_ | (apply l_rdg; rfl; rfl; rfl; exact rd_go; rfl) | refine l_skip rfl rfl rfl rfl ?_ | (apply q_rdg; rfl; rfl; rfl; exact rd_go; rfl) | refine q_skip rfl rfl rfl rfl ?_ | refine c_draw H (by kernel_rfl) ?_ | (refine q_end ?_; clear H; intro _ H) | ((first | refine l_st (z_box H ?_) | refine l_st (s_alloc H rfl ?_)); clear H; intro _ _ _ H) | (refine l_st (t_build0 H rfl ?_); clear H; intro _ _ _ _ H) | (refine l_st (z_sto H ?_); clear H; intro _ H) | ((first | refine c_cond ⟨rfl, rfl⟩ ?_ ?_ | refine c_ncond ⟨rfl, rfl⟩ ?_ ?_ | refine l_split rfl rfl ?_ ?_ | refine q_split rfl rfl ?_ ?_ | refine l_nsplit rfl rfl ?_ ?_ | refine q_nsplit rfl rfl ?_ ?_) <;> intro _ <;> try (exfalso; omega)) | (refine l_st (k_call1 evs_auto H ca_Wr2 rfl ?_); clear H; intro _ _ H) | (refine l_st (k_callg1 evs_auto rfl rfl rfl H ca_Wr2 rfl ?_); clear H; intro _ _ H) | refine kq_call1 evs_auto H (fun _ H => ca_Wr2) rfl ?_ | refine kq_callg1 evs_auto rfl rfl rfl H (fun _ H => ca_Wr2) rfl ?_ | refine l_skipu rfl rfl rfl rfl ?_ | refine q_skipu rfl rfl rfl rfl ?_)
  refine l_st (t_make (n := n.toNat) H ⟨rfl, rfl⟩ ⟨rfl, rfl⟩ (by omega) (by omega) rfl ?_)
  clear H; intro A1 c1 _ _ H
  have H1 := H.add (f := Chunks kSec 8 (List.replicate n.toNat zs) (List.replicate (n.toNat * 8) (Value.int .u8 0))) (fun w' _ _ => zVol_chunks _ w')
  clear H; have H := H1; clear H1
  repeat' (first | (apply l_rd; exact rd_go; rfl) | (apply q_rd; exact rd_go; rfl) | refine stp ?_ | refine bk_o rfl ?_ | refine c_true ⟨rfl, rfl⟩ ?_ | refine c_false ⟨rfl, rfl⟩ ?_ | (apply l_rdg; rfl; rfl; rfl; exact rd_go; rfl) | refine l_skip rfl rfl rfl rfl ?_ | (apply q_rdg; rfl; rfl; rfl; exact rd_go; rfl) | refine q_skip rfl rfl rfl rfl ?_ | refine c_draw H (by kernel_rfl) ?_ | (refine q_end ?_; clear H; intro _ H) | ((first | refine l_st (z_box H ?_) | refine l_st (s_alloc H rfl ?_)); clear H; intro _ _ _ H) | (refine l_st (t_build0 H rfl ?_); clear H; intro _ _ _ _ H) | (refine l_st (z_sto H ?_); clear H; intro _ H) | ((first | refine c_cond ⟨rfl, rfl⟩ ?_ ?_ | refine c_ncond ⟨rfl, rfl⟩ ?_ ?_ | refine l_split rfl rfl ?_ ?_ | refine q_split rfl rfl ?_ ?_ | refine l_nsplit rfl rfl ?_ ?_ | refine q_nsplit rfl rfl ?_ ?_) <;> intro _ <;> try (exfalso; omega)) | (refine l_st (k_call1 evs_auto H ca_Wr2 rfl ?_); clear H; intro _ _ H) | (refine l_st (k_callg1 evs_auto rfl rfl rfl H ca_Wr2 rfl ?_); clear H; intro _ _ H) | refine kq_call1 evs_auto H (fun _ H => ca_Wr2) rfl ?_ | refine kq_callg1 evs_auto rfl rfl rfl H (fun _ H => ca_Wr2) rfl ?_ | refine l_skipu rfl rfl rfl rfl ?_ | refine q_skipu rfl rfl rfl rfl ?_)
  exact ret1 H rfl rfl rfl (H.fresh (j := 0) rfl mem_auto (by simp [zVol]))
theorem mapNew_any (M : Nat → Prop) (l : List Int) (A : Option Addr) (c : Nat) (w : World) (hM : ∀ b, M b → b < w.heap.size) (hz : sizesErr l = 0) (hF : Stab w M (Row (kInt .i64) 1 A l)) :
    Ret Tryd.prog 138 [.slice A l.length c, .func (.func 139) #[] #[]] w fun v w' => Fresh (kSl 8 kSec) 61 1 M w (zIm l) v w' := by
  obtain ⟨z1, z2, z3⟩ := sizesErr_zero hz
  refine enter (M := M) (F := [Row (kInt .i64) 1 A l]) Tryd.func138 rfl rfl rfl (by simpa using hF) fun H => ?_
  repeat' (first | (apply l_rd; exact rd_go; rfl) | (apply q_rd; exact rd_go; rfl) | refine stp ?_ | refine bk_o rfl ?_ | refine c_true ⟨rfl, rfl⟩ ?_ | refine c_false ⟨rfl, rfl⟩ ?_ | (apply l_rdg; rfl; rfl; rfl; exact rd_go; rfl) | refine l_skip rfl rfl rfl rfl ?_ | (apply q_rdg; rfl; rfl; rfl; exact rd_go; rfl) | refine q_skip rfl rfl rfl rfl ?_ | refine c_draw H (by kernel_rfl) ?_ | (refine q_end ?_; clear H; intro _ H) | ((first | refine l_st (z_box H ?_) | refine l_st (s_alloc H rfl ?_)); clear H; intro _ _ _ H) | (refine l_st (t_build0 H rfl ?_); clear H; intro _ _ _ _ H) | (refine l_st (z_sto H ?_); clear H; intro _ H) | ((first | refine c_cond ⟨rfl, rfl⟩ ?_ ?_ | refine c_ncond ⟨rfl, rfl⟩ ?_ ?_ | refine l_split rfl rfl ?_ ?_ | refine q_split rfl rfl ?_ ?_ | refine l_nsplit rfl rfl ?_ ?_ | refine q_nsplit rfl rfl ?_ ?_) <;> intro _ <;> try (exfalso; omega)) | (refine l_st (k_call1 evs_auto H ca_Wr2 rfl ?_); clear H; intro _ _ H) | (refine l_st (k_callg1 evs_auto rfl rfl rfl H ca_Wr2 rfl ?_); clear H; intro _ _ H) | refine kq_call1 evs_auto H (fun _ H => ca_Wr2) rfl ?_ | refine kq_callg1 evs_auto rfl rfl rfl H (fun _ H => ca_Wr2) rfl ?_ | refine l_skipu rfl rfl rfl rfl ?_ | refine q_skipu rfl rfl rfl rfl ?_)
  refine l_st (t_make0 (n := l.length) H ⟨rfl, rfl⟩ ⟨rfl, rfl⟩ rfl (by omega) rfl ?_)
  clear H; intro A1 c1 _ _ H
  have H1 := H.add (f := Chunks (kSl 8 kSec) 1 ([] : List (List Sec)) []) (fun _ _ _ => Chunks.nil)
  clear H; have H := H1; clear H1
  repeat' (first | (apply l_rd; exact rd_go; rfl) | (apply q_rd; exact rd_go; rfl) | refine stp ?_ | refine bk_o rfl ?_ | refine c_true ⟨rfl, rfl⟩ ?_ | refine c_false ⟨rfl, rfl⟩ ?_ | (apply l_rdg; rfl; rfl; rfl; exact rd_go; rfl) | refine l_skip rfl rfl rfl rfl ?_ | (apply q_rdg; rfl; rfl; rfl; exact rd_go; rfl) | refine q_skip rfl rfl rfl rfl ?_ | refine c_draw H (by kernel_rfl) ?_ | (refine q_end ?_; clear H; intro _ H) | ((first | refine l_st (z_box H ?_) | refine l_st (s_alloc H rfl ?_)); clear H; intro _ _ _ H) | (refine l_st (t_build0 H rfl ?_); clear H; intro _ _ _ _ H) | (refine l_st (z_sto H ?_); clear H; intro _ H) | ((first | refine c_cond ⟨rfl, rfl⟩ ?_ ?_ | refine c_ncond ⟨rfl, rfl⟩ ?_ ?_ | refine l_split rfl rfl ?_ ?_ | refine q_split rfl rfl ?_ ?_ | refine l_nsplit rfl rfl ?_ ?_ | refine q_nsplit rfl rfl ?_ ?_) <;> intro _ <;> try (exfalso; omega)) | (refine l_st (k_call1 evs_auto H ca_Wr2 rfl ?_); clear H; intro _ _ H) | (refine l_st (k_callg1 evs_auto rfl rfl rfl H ca_Wr2 rfl ?_); clear H; intro _ _ H) | refine kq_call1 evs_auto H (fun _ H => ca_Wr2) rfl ?_ | refine kq_callg1 evs_auto rfl rfl rfl H (fun _ H => ca_Wr2) rfl ?_ | refine l_skipu rfl rfl rfl rfl ?_ | refine q_skipu rfl rfl rfl rfl ?_)
  refine c_loopk [13, 5] [1, 11, 12] (fun n vs w' => ∃ (i : Nat) (A' : Option Addr) (c' : Nat) (xs : List (List Sec)) (cs : List Value), vs = [.int .i64 i, .slice A' xs.length c'] ∧ i ≤ l.length ∧ n = l.length - i ∧ xs = (l.take i).map zVol ∧
      Hp w M w' [] [⟨.slice A' xs.length c', 61, 1, xs.length, cs⟩] [Chunks (kSl 8 kSec) 1 xs cs, Row (kInt .i64) 1 A l]) _ [_, _, _] rfl ⟨0, A1, c1, [], [], rfl, Nat.zero_le _, rfl, rfl, H⟩ ?_
  clear H
  rintro n _ E0 w2 ⟨i, A', c', xs, cs, rfl, hi, rfl, hxs, H⟩
  have hxl : xs.length = i := by rw [hxs, List.length_map, List.length_take]; omega
  by_cases hi' : i < l.length
  · have hli := z3 _ (List.getElem_mem hi')
    repeat' (first | (apply l_rd; exact rd_go; rfl) | (apply q_rd; exact rd_go; rfl) | refine stp ?_ | refine bk_o rfl ?_ | refine c_true ⟨rfl, rfl⟩ ?_ | refine c_false ⟨rfl, rfl⟩ ?_ | (apply l_rdg; rfl; rfl; rfl; exact rd_go; rfl) | refine l_skip rfl rfl rfl rfl ?_ | (apply q_rdg; rfl; rfl; rfl; exact rd_go; rfl) | refine q_skip rfl rfl rfl rfl ?_ | refine c_draw H (by kernel_rfl) ?_ | (refine q_end ?_; clear H; intro _ H) | ((first | refine l_st (z_box H ?_) | refine l_st (s_alloc H rfl ?_)); clear H; intro _ _ _ H) | (refine l_st (t_build0 H rfl ?_); clear H; intro _ _ _ _ H) | (refine l_st (z_sto H ?_); clear H; intro _ H) | ((first | refine c_cond ⟨rfl, rfl⟩ ?_ ?_ | refine c_ncond ⟨rfl, rfl⟩ ?_ ?_ | refine l_split rfl rfl ?_ ?_ | refine q_split rfl rfl ?_ ?_ | refine l_nsplit rfl rfl ?_ ?_ | refine q_nsplit rfl rfl ?_ ?_) <;> intro _ <;> try (exfalso; omega)) | (refine l_st (k_call1 evs_auto H ca_Wr2 rfl ?_); clear H; intro _ _ H) | (refine l_st (k_callg1 evs_auto rfl rfl rfl H ca_Wr2 rfl ?_); clear H; intro _ _ H) | refine kq_call1 evs_auto H (fun _ H => ca_Wr2) rfl ?_ | refine kq_callg1 evs_auto rfl rfl rfl H (fun _ H => ca_Wr2) rfl ?_ | refine l_skipu rfl rfl rfl rfl ?_ | refine q_skipu rfl rfl rfl rfl ?_)
    refine l_st (k_callv0 evs_auto ⟨rfl, rfl⟩ H (new1_any (Mu M [] [⟨.slice A' xs.length c', 61, 1, xs.length, cs⟩]) (l[i]'hi') _ (by omega)) rfl ?_)
    rintro v w8 hf8 hb8 _
    obtain ⟨A9, c9, cs9, rfl, _, _, H9⟩ := H.take' hb8 hf8
    obtain ⟨s3, s4, H10⟩ := H9.sealR (dd := kSec) (xs := zVol (l[i]'hi')) mem_auto hM (Nat.zero_lt_succ 7) rfl (by simp [zVol]; omega)
    clear H H9 hf8; have H := H10; clear H10
    repeat' (first | (apply l_rd; exact rd_go; rfl) | (apply q_rd; exact rd_go; rfl) | refine stp ?_ | refine bk_o rfl ?_ | refine c_true ⟨rfl, rfl⟩ ?_ | refine c_false ⟨rfl, rfl⟩ ?_ | (apply l_rdg; rfl; rfl; rfl; exact rd_go; rfl) | refine l_skip rfl rfl rfl rfl ?_ | (apply q_rdg; rfl; rfl; rfl; exact rd_go; rfl) | refine q_skip rfl rfl rfl rfl ?_ | refine c_draw H (by kernel_rfl) ?_ | (refine q_end ?_; clear H; intro _ H) | ((first | refine l_st (z_box H ?_) | refine l_st (s_alloc H rfl ?_)); clear H; intro _ _ _ H) | (refine l_st (t_build0 H rfl ?_); clear H; intro _ _ _ _ H) | (refine l_st (z_sto H ?_); clear H; intro _ H) | ((first | refine c_cond ⟨rfl, rfl⟩ ?_ ?_ | refine c_ncond ⟨rfl, rfl⟩ ?_ ?_ | refine l_split rfl rfl ?_ ?_ | refine q_split rfl rfl ?_ ?_ | refine l_nsplit rfl rfl ?_ ?_ | refine q_nsplit rfl rfl ?_ ?_) <;> intro _ <;> try (exfalso; omega)) | (refine l_st (k_call1 evs_auto H ca_Wr2 rfl ?_); clear H; intro _ _ H) | (refine l_st (k_callg1 evs_auto rfl rfl rfl H ca_Wr2 rfl ?_); clear H; intro _ _ H) | refine kq_call1 evs_auto H (fun _ H => ca_Wr2) rfl ?_ | refine kq_callg1 evs_auto rfl rfl rfl H (fun _ H => ca_Wr2) rfl ?_ | refine l_skipu rfl rfl rfl rfl ?_ | refine q_skipu rfl rfl rfl rfl ?_)
    refine l_apps (j := 0) (dd := kSl 8 kSec) (xs := xs) (zVol (l[i]'hi')) H rfl rfl mem_auto ⟨rfl, rfl⟩ ((H.fact _ mem_auto).imp fun w' h => ⟨A9, c9, rfl, s3, s4, h⟩) rfl (fun _ => ⟨rfl, rfl⟩) (by omega) rfl ?_
    clear H; intro A10 c10 _ _ H
    repeat' (first | (apply l_rd; exact rd_go; rfl) | (apply q_rd; exact rd_go; rfl) | refine stp ?_ | refine bk_o rfl ?_ | refine c_true ⟨rfl, rfl⟩ ?_ | refine c_false ⟨rfl, rfl⟩ ?_ | (apply l_rdg; rfl; rfl; rfl; exact rd_go; rfl) | refine l_skip rfl rfl rfl rfl ?_ | (apply q_rdg; rfl; rfl; rfl; exact rd_go; rfl) | refine q_skip rfl rfl rfl rfl ?_ | refine c_draw H (by kernel_rfl) ?_ | (refine q_end ?_; clear H; intro _ H) | ((first | refine l_st (z_box H ?_) | refine l_st (s_alloc H rfl ?_)); clear H; intro _ _ _ H) | (refine l_st (t_build0 H rfl ?_); clear H; intro _ _ _ _ H) | (refine l_st (z_sto H ?_); clear H; intro _ H) | ((first | refine c_cond ⟨rfl, rfl⟩ ?_ ?_ | refine c_ncond ⟨rfl, rfl⟩ ?_ ?_ | refine l_split rfl rfl ?_ ?_ | refine q_split rfl rfl ?_ ?_ | refine l_nsplit rfl rfl ?_ ?_ | refine q_nsplit rfl rfl ?_ ?_) <;> intro _ <;> try (exfalso; omega)) | (refine l_st (k_call1 evs_auto H ca_Wr2 rfl ?_); clear H; intro _ _ H) | (refine l_st (k_callg1 evs_auto rfl rfl rfl H ca_Wr2 rfl ?_); clear H; intro _ _ H) | refine kq_call1 evs_auto H (fun _ H => ca_Wr2) rfl ?_ | refine kq_callg1 evs_auto rfl rfl rfl H (fun _ H => ca_Wr2) rfl ?_ | refine l_skipu rfl rfl rfl rfl ?_ | refine q_skipu rfl rfl rfl rfl ?_)
    exact lk_n rfl (n' := l.length - (i + 1)) (by omega) ⟨i + 1, A10, c10, xs ++ [zVol (l[i]'hi')], _, rfl, hi', rfl, by rw [hxs, List.take_succ_eq_append_getElem hi', List.map_append]; rfl, H.weak (List.nil_sublist _) (List.Sublist.refl _) (by simp)⟩
  · repeat' (first | (apply l_rd; exact rd_go; rfl) | (apply q_rd; exact rd_go; rfl) | refine stp ?_ | refine bk_o rfl ?_ | refine c_true ⟨rfl, rfl⟩ ?_ | refine c_false ⟨rfl, rfl⟩ ?_ | (apply l_rdg; rfl; rfl; rfl; exact rd_go; rfl) | refine l_skip rfl rfl rfl rfl ?_ | (apply q_rdg; rfl; rfl; rfl; exact rd_go; rfl) | refine q_skip rfl rfl rfl rfl ?_ | refine c_draw H (by kernel_rfl) ?_ | (refine q_end ?_; clear H; intro _ H) | ((first | refine l_st (z_box H ?_) | refine l_st (s_alloc H rfl ?_)); clear H; intro _ _ _ H) | (refine l_st (t_build0 H rfl ?_); clear H; intro _ _ _ _ H) | (refine l_st (z_sto H ?_); clear H; intro _ H) | ((first | refine c_cond ⟨rfl, rfl⟩ ?_ ?_ | refine c_ncond ⟨rfl, rfl⟩ ?_ ?_ | refine l_split rfl rfl ?_ ?_ | refine q_split rfl rfl ?_ ?_ | refine l_nsplit rfl rfl ?_ ?_ | refine q_nsplit rfl rfl ?_ ?_) <;> intro _ <;> try (exfalso; omega)) | (refine l_st (k_call1 evs_auto H ca_Wr2 rfl ?_); clear H; intro _ _ H) | (refine l_st (k_callg1 evs_auto rfl rfl rfl H ca_Wr2 rfl ?_); clear H; intro _ _ H) | refine kq_call1 evs_auto H (fun _ H => ca_Wr2) rfl ?_ | refine kq_callg1 evs_auto rfl rfl rfl H (fun _ H => ca_Wr2) rfl ?_ | refine l_skipu rfl rfl rfl rfl ?_ | refine q_skipu rfl rfl rfl rfl ?_)
    have e : xs = zIm l := by rw [hxs, List.take_of_length_le (by omega)]; rfl
    subst e
    exact ret1 H rfl rfl rfl (H.fresh (j := 0) rfl mem_auto rfl)
def newIm (l : List Int) : List (List Sec) := if sizesErr l = 0 then zIm l else []
theorem newIm_any (M : Nat → Prop) (l : List Int) (A : Option Addr) (c : Nat) (w : World) (hM : ∀ b, M b → b < w.heap.size) (hF : Stab w M (Row (kInt .i64) 1 A l)) :
    Ret Tryd.prog 102 [.slice A l.length c] w fun v w' => ∃ vs, v = .tuple #[vs, .int .i64 (sizesErr l)] ∧ Fresh (kSl 8 kSec) 61 1 M w (newIm l) vs w' := by
  refine enter (M := M) (F := [Row (kInt .i64) 1 A l]) Tryd.func102 rfl rfl rfl (by simpa using hF) fun H => ?_
  repeat' (first | (apply l_rd; exact rd_go; rfl) | (apply q_rd; exact rd_go; rfl) | refine stp ?_ | refine bk_o rfl ?_ | refine c_true ⟨rfl, rfl⟩ ?_ | refine c_false ⟨rfl, rfl⟩ ?_ | (apply l_rdg; rfl; rfl; rfl; exact rd_go; rfl) | refine l_skip rfl rfl rfl rfl ?_ | (apply q_rdg; rfl; rfl; rfl; exact rd_go; rfl) | refine q_skip rfl rfl rfl rfl ?_ | refine c_draw H (by kernel_rfl) ?_ | (refine q_end ?_; clear H; intro _ H) | ((first | refine l_st (z_box H ?_) | refine l_st (s_alloc H rfl ?_)); clear H; intro _ _ _ H) | (refine l_st (t_build0 H rfl ?_); clear H; intro _ _ _ _ H) | (refine l_st (z_sto H ?_); clear H; intro _ H) | ((first | refine c_cond ⟨rfl, rfl⟩ ?_ ?_ | refine c_ncond ⟨rfl, rfl⟩ ?_ ?_ | refine l_split rfl rfl ?_ ?_ | refine q_split rfl rfl ?_ ?_ | refine l_nsplit rfl rfl ?_ ?_ | refine q_nsplit rfl rfl ?_ ?_) <;> intro _ <;> try (exfalso; omega)) | (refine l_st (k_call1 evs_auto H ca_Wr2 rfl ?_); clear H; intro _ _ H) | (refine l_st (k_callg1 evs_auto rfl rfl rfl H ca_Wr2 rfl ?_); clear H; intro _ _ H) | refine kq_call1 evs_auto H (fun _ H => ca_Wr2) rfl ?_ | refine kq_callg1 evs_auto rfl rfl rfl H (fun _ H => ca_Wr2) rfl ?_ | refine l_skipu rfl rfl rfl rfl ?_ | refine q_skipu rfl rfl rfl rfl ?_)
  · have h : sizesErr l ≠ 0 := by assumption
    refine ret2 (v := .slice _ _ _) (v' := .int _ _) H rfl rfl rfl rfl ⟨_, rfl, ?_⟩
    unfold newIm; rw [if_neg h]; exact H.fresh_nil
  · have h : sizesErr l = 0 := by have : ¬ sizesErr l ≠ 0 := by assumption
                                  omega
    refine l_st (k_call evs_auto H (mapNew_any _ l A c _ (H.mu_lt hM) h (H.fact _ mem_auto)) rfl ?_)
    rintro v w8 hf8 hb8 _
    obtain ⟨A9, c9, cs9, rfl, _, _, H9⟩ := H.take' hb8 hf8
    clear H; have H := H9; clear H9
    repeat' (first | (apply l_rd; exact rd_go; rfl) | (apply q_rd; exact rd_go; rfl) | refine stp ?_ | refine bk_o rfl ?_ | refine c_true ⟨rfl, rfl⟩ ?_ | refine c_false ⟨rfl, rfl⟩ ?_ | (apply l_rdg; rfl; rfl; rfl; exact rd_go; rfl) | refine l_skip rfl rfl rfl rfl ?_ | (apply q_rdg; rfl; rfl; rfl; exact rd_go; rfl) | refine q_skip rfl rfl rfl rfl ?_ | refine c_draw H (by kernel_rfl) ?_ | (refine q_end ?_; clear H; intro _ H) | ((first | refine l_st (z_box H ?_) | refine l_st (s_alloc H rfl ?_)); clear H; intro _ _ _ H) | (refine l_st (t_build0 H rfl ?_); clear H; intro _ _ _ _ H) | (refine l_st (z_sto H ?_); clear H; intro _ H) | ((first | refine c_cond ⟨rfl, rfl⟩ ?_ ?_ | refine c_ncond ⟨rfl, rfl⟩ ?_ ?_ | refine l_split rfl rfl ?_ ?_ | refine q_split rfl rfl ?_ ?_ | refine l_nsplit rfl rfl ?_ ?_ | refine q_nsplit rfl rfl ?_ ?_) <;> intro _ <;> try (exfalso; omega)) | (refine l_st (k_call1 evs_auto H ca_Wr2 rfl ?_); clear H; intro _ _ H) | (refine l_st (k_callg1 evs_auto rfl rfl rfl H ca_Wr2 rfl ?_); clear H; intro _ _ H) | refine kq_call1 evs_auto H (fun _ H => ca_Wr2) rfl ?_ | refine kq_callg1 evs_auto rfl rfl rfl H (fun _ H => ca_Wr2) rfl ?_ | refine l_skipu rfl rfl rfl rfl ?_ | refine q_skipu rfl rfl rfl rfl ?_)
    refine ret2 (v := .slice _ _ _) (v' := .int _ _) H rfl rfl rfl rfl ⟨_, by rw [h], ?_⟩
    unfold newIm; rw [if_pos h]
    exact H.fresh (j := 0) rfl mem_auto rfl
theorem sizesOf_zIm {l : List Int} (h : sizesErr l = 0) : sizesOf (zIm l) = l := by
  obtain ⟨z1, z2, z3⟩ := sizesErr_zero h
  unfold sizesOf zIm
  rw [List.map_map]
  apply List.ext_getElem
  · simp
  · intro i h1 h2
    have := z3 _ (List.getElem_mem h2)
    simp [zVol]; omega
end Go.Proofs.YtiolpldihoghiaaDoor

namespace Go.Proofs.YtiolpldihoghiaaDoor
open Go.RowKit
set_option linter.unusedVariables false
set_option linter.unusedSimpArgs false
section
variable {P : Program} {N : Nat} {E : List (Nat × Value)} {ds : List Deferred} {ops : Array Oper} {rest : List Oper} {Q Q' : Exit → Act → World → Prop}
variable {d d1 : Nat} {o : Op} {dst : Option Tmp} {ty ty1 : TypeId} {pos pos1 : String} {af af1 : Array Edge} {g : Option (Nat × Bool)} {w w' ws : World} {v v' q : Value} {x y z : Operand} {T T' u : TypeId} {a b : Int}
variable {w0 : World} {M : Nat → Prop} {L : List Loc} {O : List Own} {F : List (World → Prop)} {K : List (Nat × Value) → World → Prop}
theorem fill_list (sz : Nat) : ∀ (qs : List Value) (k : Nat) (A : Array Value), (∀ q ∈ qs, q.cells.size = sz) → (k + qs.length) * sz ≤ A.size →
    ∃ B, Instr.fill (fun i => some (i * sz, sz)) A ((qs.zipIdx k).map fun p => (p.2, p.1)) = some B ∧ B.toList = A.toList.take (k * sz) ++ qs.flatMap (·.cells.toList) ++ A.toList.drop ((k + qs.length) * sz)
  | [], k, A, _, _ => ⟨A, rfl, by simp⟩
  | q :: qs, k, A, hq, hA => by
    have h1 := hq q (List.mem_cons_self ..)
    have hlen : k * sz + sz ≤ A.size := by
      have : (k + 1) * sz ≤ (k + (q :: qs).length) * sz := Nat.mul_le_mul_right _ (by simp)
      rw [Nat.add_mul, Nat.one_mul] at this; omega
    have hf := foldl_fill q.cells.toList 0 (k * sz) A (by simp [h1]; omega)
    generalize hB : (List.foldl (fun (cs : Array Value) (p : Value × Nat) => cs.setIfInBounds (k * sz + p.2) p.1) A (q.cells.toList.zipIdx 0)) = B at hf
    have hBs : B.size = A.size := by
      have := congrArg List.length hf
      simp [h1] at this; omega
    obtain ⟨C, h2, h3⟩ := fill_list sz qs (k + 1) B (fun q' h => hq q' (List.mem_cons_of_mem _ h)) (by rw [hBs]; simp only [List.length_cons] at hA; rw [show k + 1 + qs.length = k + (qs.length + 1) from by omega]; exact hA)
    refine ⟨C, ?_, ?_⟩
    · simp only [List.zipIdx_cons, List.map_cons, Instr.fill, h1]
      have e1 : ¬ (k * sz + sz > A.size) := by omega
      simp only [ne_eq, not_true_eq_false, decide_false, e1, Bool.or_self, Bool.false_eq_true, if_false]
      rw [← h2]
      congr 1
      rw [← hB, ← Array.foldl_toList, Array.toList_zipIdx]
    · rw [h3, hf]
      have e1 : (A.toList.take (k * sz + 0) ++ q.cells.toList).length = (k + 1) * sz := by
        simp only [List.length_append, List.length_take, Array.length_toList, h1, Nat.add_mul, Nat.one_mul]; omega
      rw [List.take_append, List.take_of_length_le (Nat.le_of_eq e1), e1, Nat.sub_self, List.take_zero, List.append_nil, List.drop_append, List.drop_of_length_le (l := A.toList.take (k * sz + 0) ++ q.cells.toList) (by rw [e1]; exact Nat.mul_le_mul_right _ (by omega)), e1, List.drop_drop]
      simp only [List.flatMap_cons, List.nil_append, List.append_assoc, Nat.add_zero, List.length_cons, Array.length_toList, h1]
      congr 3
      congr 1
      rw [show k + (qs.length + 1) = k + 1 + qs.length from by omega]
      have : (k + 1) * sz ≤ (k + 1 + qs.length) * sz := Nat.mul_le_mul_right _ (by omega)
      rw [Nat.add_mul k 1, Nat.one_mul] at this ⊢
      omega
theorem flat_len' {sz : Nat} : ∀ {qs : List Value}, (∀ q ∈ qs, q.cells.size = sz) → (qs.flatMap (·.cells.toList)).length = qs.length * sz
  | [], _ => by simp
  | q :: qs, h => by
    simp only [List.flatMap_cons, List.length_append, Array.length_toList, List.length_cons, h q (List.mem_cons_self ..), flat_len' (qs := qs) (fun q' h' => h q' (List.mem_cons_of_mem _ h')), Nat.add_mul, Nat.one_mul]
    omega
/-- '[]T{x, y, ..}'. -/
theorem t_slice {e sz by_ n : Nat} [hT : SlTy P T e sz by_] {parts : List (Nat × Operand)} {vs : List (Nat × Value)} (qs : List Value) {cs : List Value} (H : Hp w0 M w L O F) (hp : Evp N E parts vs) (hv : vs = qs.zipIdx.map fun p => (p.2, p.1)) (hl : qs.all (fun q => Nat.beq q.cells.size sz) = true) (hn : n = qs.length) (h0 : Nat.ble 1 n = true)
    (hcs : qs.flatMap (·.cells.toList) = cs) (hsm : Nat.ble (n * sz) 16777216 = true) (hd : Nat.blt d N = true)
    (h : ∀ A c w', Below w.heap.size w w' → (∀ b, (Value.slice A n c).ownBlock = some b → w.heap.size ≤ b) → Hp w0 M w' L (⟨.slice A n c, e, sz, n, cs⟩ :: O) F → K ((d, .slice A n c) :: E) w') :
    St P ops Q ⟨some d, .buildSlice T n parts.toArray, ty, pos, af, none⟩ N E ds w K := by
  obtain ⟨i, h2, h3, h4, z, h5, h6⟩ := hT.inf
  have hpos := hT.pos.1
  have hn0 : 1 ≤ n := by simpa using h0
  have hmap := evp_map (ds := ds) hp
  subst hn; subst hcs; subst hv
  have hall : ∀ q ∈ qs, q.cells.size = sz := fun q hq => Nat.eq_of_beq_eq_true (List.all_eq_true.1 hl q hq)
  obtain ⟨B, hB1, hB2⟩ := fill_list sz qs 0 ((Array.range (qs.length * sz)).map (z.cells[· % z.cells.size]!)) hall (by simp)
  have hBl : B = (qs.flatMap (·.cells.toList)).toArray := by
    apply Array.toList_inj.1
    rw [hB2, List.drop_of_length_le (by simp)]
    simp
  subst hBl
  have hsm' : ¬ 16777216 < qs.length * sz := by simp at hsm; omega
  have hne : ¬ qs.length * sz = 0 := by
    intro e; rcases Nat.mul_eq_zero.1 e with e | e <;> omega
  have hr : (execOp (fr N E ds).eval ⟨some d, .buildSlice T qs.length parts.toArray, ty, pos, af, none⟩).run P w = .ok (.value (.slice (some ⟨w.heap.size, 0, none⟩) qs.length qs.length)) (w.alloc (.cells (qs.flatMap (·.cells.toList)).toArray e)) := by
    have hpm : (parts.toArray.map fun p => (p.1, (fr N E ds).eval p.2)) = (qs.zipIdx.map fun p => (p.2, p.1)).toArray := by rw [List.map_toArray, hmap]
    have hq0 : ¬ qs = [] := by intro e; subst e; simp at hn0
    have hs0 : ¬ sz = 0 := by omega
    simp only [execOp, Instr.buildSlice, underlying]
    simp [hT.und, run_sizeOf_ h2, h3, hsm', hne, hq0, hs0, zeroValue, typeInfo, h2, h5]
    rw [hmap, hB1]
    simp [newRow]
  have hcl : (qs.flatMap (·.cells.toList)).length = qs.length * sz := by
    have := congrArg List.length hB2
    simp at this
    exact flat_len' hall
  have hown := World.ownsRow_lit (base := w.heap.size) (e := e) (size := sz) w (qs.flatMap (·.cells.toList)).toArray qs.length (Nat.le_refl _) (by
      have : qs.length ≤ qs.length * sz := Nat.le_mul_of_pos_right _ hpos
      simp only [maxLen]; omega) (by simpa using hcl)
  have hbl : Below w.heap.size w (w.alloc (.cells (qs.flatMap (·.cells.toList)).toArray e)) := (Below.refl _ _).alloc (Nat.le_refl _) _
  exact s_run rfl hr (.inr ⟨_, _, rfl, rfl, hd, h _ _ _ hbl (fun b hb => (hown.lt b hb).1) (H.own_new hbl hown)⟩)
/-- A struct is stored into an element of a row whose cells represent a list. -/
theorem t_storec {α : Type} {dd : Rp α} {j e sz n m : Nat} {xs : List α} {cs vs : List Value} [hT : AgT P T sz] (x1 : α) (H : Hp w0 M w L O F) (hO : O[j]? = some ⟨v, e, sz, n, cs⟩) (hc : Chunks dd sz xs cs ∈ F) (hp : Ev N E x (op v m sz 0)) (hy : Ev N E y (.agg vs.toArray))
    (hn : n = xs.length) (hm : m < n) (hl : vs.length = sz) (h1 : vs.all (·.oneCell') = true) (hx1 : Stab w (Mu M L O) (fun w' => dd w' x1 vs))
    (h : ∀ w', Hp w0 M w' L (O.set j ⟨v, e, sz, n, splice cs (m * sz) vs⟩) (Chunks dd sz (xs.set m x1) (splice cs (m * sz) vs) :: F) → K E w') : St P ops Q ⟨none, .store T x y, ty, pos, af, none⟩ N E ds w K :=
  s_storea_op (H.add (f := Chunks dd sz (xs.set m x1) (splice cs (m * sz) vs)) (fun w' hs hw => ((H.fact _ hc) w' hs hw).setN (hx1 w' hs hw) hl (by omega))) hp hO hm hy hl h1 h
/-- One element of a row that represents a list. -/
theorem Hp.chunk {α : Type} {dd : Rp α} {sz m : Nat} {xs : List α} {cs : List Value} (H : Hp w0 M w L O F) (hc : Chunks dd sz xs cs ∈ F) (hm : m < xs.length) : Stab w (Mu M L O) (fun w' => dd w' xs[m] ((cs.drop (m * sz)).take sz)) :=
  (H.fact _ hc).imp fun w' h => h.at_ m _ (List.getElem?_eq_getElem hm)
/-- The blocks that may turn. -/
abbrev Hp.mu (_ : Hp w0 M w L O F) : Nat → Prop := Mu M L O
/-- The place of an element: it looks at no block. -/
theorem rd_index_at {j e sz n m : Nat} {cs : List Value} {by_ : Nat} {k : IntKind} [hT : SlTy P T e sz by_] (H : Hp w0 M ws L O F) (hO : O[j]? = some ⟨v, e, sz, n, cs⟩) (hx : Ev N E x v) (hy : Ev N E y (.int k a)) (ha : a = (m : Int)) (hm : m < n) :
    Rd P ⟨dst, .indexAddr T x y, ty, pos, af, g⟩ N E w (op v m sz 0) := by
  obtain ⟨gg, cap, rfl⟩ := own_form H hO hm
  obtain ⟨ii, h1, h2, _⟩ := hT.inf
  subst ha; subst h2
  refine ⟨fun ds w' hw => ?_⟩
  simp [execOp, fr_eval hx, fr_eval hy, Instr.indexAt, asIntOf, underlying, hT.und, run_sizeOf_ h1, op, hm, Value.ownBlock, add_zero_]
end
end Go.Proofs.YtiolpldihoghiaaDoor

namespace Go.Proofs.YtiolpldihoghiaaDoor
open Go.RowKit
set_option linter.unusedVariables false
/-- A sector's cells, eight whatever it is. -/
def gSec (s : Sec) : List Value := (List.range 8).map fun i => .int .u8 ((s[i]?).getD 0)
theorem gSec_len (s : Sec) : (gSec s).length = 8 := by simp [gSec]
theorem gSec_eq {s : Sec} (h : s.length = 8) : gSec s = s.map (Value.int .u8) := by
  apply List.ext_getElem
  · simp [gSec, h]
  · intro i h1 h2
    simp only [gSec, List.getElem_map, List.getElem_range]
    rw [List.getElem?_eq_getElem (by simp at h2; exact h2)]; rfl
theorem gSec_one (s : Sec) : (gSec s).all (·.oneCell') = true := by simp [gSec, Value.oneCell']
def SecOk (s : Sec) : Prop := s.length = 8 ∧ ∀ x ∈ s, rng .u8 x
theorem SecOk.k {s : Sec} (h : SecOk s) (w : World) : kSec w s (gSec s) := ⟨gSec_eq h.1, h.1, h.2⟩
def ImOk (im : List (List Sec)) : Prop := ∀ l ∈ im, ∀ s ∈ l, SecOk s
theorem sec_ok {w : World} {M : Nat → Prop} {A : Option Addr} {l : List Sec} (h : Stab w M (Row kSec 8 A l)) : ∀ s ∈ l, SecOk s := fun s hs => by
  obtain ⟨cs, hd⟩ := mem_row h (by decide) hs
  exact hd.now.2
theorem im_ok {w : World} {M : Nat → Prop} {A : Option Addr} {im : List (List Sec)} (h : Stab w M (Row kVol 1 A im)) : ImOk im := fun l hl s hs => by
  obtain ⟨cs, hd⟩ := mem_row h (by decide) hl
  obtain ⟨A', c', _, _, _, hr⟩ := Stab.sl (dd := kSec) (sz := 8) hd
  exact sec_ok hr s hs
/-- Chunks of sectors are these cells. -/
theorem chunks_sec {w : World} {l : List Sec} : ∀ {cs : List Value}, Chunks kSec 8 l cs w → cs = l.flatMap gSec := by
  induction l with
  | nil => intro cs h; have := h.len; simp at this; subst this; rfl
  | cons s l ih =>
    intro cs h
    have h0 := h.at_ 0 s rfl
    have hl := h.len
    simp only [Nat.zero_mul, List.drop_zero] at h0
    have e1 : cs.take 8 = gSec s := by rw [h0.1, gSec_eq h0.2.1]
    have h2 : Chunks kSec 8 l (cs.drop 8) w := ⟨by rw [List.length_drop, hl]; simp only [List.length_cons]; omega, fun i x hx => by
      have := h.at_ (i + 1) x hx
      rw [List.drop_drop, show 8 + i * 8 = (i + 1) * 8 from by omega]; exact this⟩
    rw [List.flatMap_cons, ← ih h2, ← e1, List.take_append_drop]
/-- d in the place of what stands from s on. -/
def putTo (l : List Sec) (s : Nat) (d : List Sec) : List Sec := l.take s ++ d ++ l.drop (s + d.length)
theorem putTo_len {l d : List Sec} {s : Nat} (h : s + d.length ≤ l.length) : (putTo l s d).length = l.length := by
  simp only [putTo, List.length_append, List.length_take, List.length_drop]; omega
theorem putTo_nil (l : List Sec) (s : Nat) : putTo l s [] = l := by simp [putTo]
theorem putTo_get {l d : List Sec} {s : Nat} (h : s + d.length ≤ l.length) (j : Nat) : (putTo l s d)[j]? = if s ≤ j ∧ j < s + d.length then d[j - s]? else l[j]? := by
  have e1 : (l.take s).length = s := by rw [List.length_take]; omega
  have e2 : (l.take s ++ d).length = s + d.length := by rw [List.length_append, e1]
  unfold putTo
  split
  · rw [List.getElem?_append_left (by omega), List.getElem?_append_right (by omega), e1]
  · rcases Nat.lt_or_ge j s with hj | hj
    · rw [List.getElem?_append_left (by omega), List.getElem?_append_left (by omega), List.getElem?_take, if_pos hj]
    · rw [List.getElem?_append_right (by omega), e2, List.getElem?_drop]
      congr 1; omega
theorem putTo_step {l d : List Sec} {s k : Nat} (hk : k < d.length) (h : s + d.length ≤ l.length) : (putTo l s (d.take k)).set (s + k) d[k] = putTo l s (d.take (k + 1)) := by
  apply List.ext_getElem?
  intro j
  have e1 : (d.take k).length = k := by rw [List.length_take]; omega
  have e2 : (d.take (k + 1)).length = k + 1 := by rw [List.length_take]; omega
  have hl := putTo_len (l := l) (s := s) (d := d.take k) (by omega)
  rw [List.getElem?_set, putTo_get (by omega), putTo_get (by omega), e1, e2]
  split
  · rename_i e; subst e
    rw [if_pos (by omega), if_pos (by omega), List.getElem?_take, if_pos (by omega), Nat.add_sub_cancel_left, List.getElem?_eq_getElem hk]
  · split
    · rw [if_pos (by omega), List.getElem?_take, List.getElem?_take, if_pos (by omega), if_pos (by omega)]
    · rw [if_neg (by omega)]
theorem putTo_ok {l d : List Sec} {s : Nat} (hl : ∀ x ∈ l, SecOk x) (hd : ∀ x ∈ d, SecOk x) : ∀ x ∈ putTo l s d, SecOk x := by
  intro x hx
  simp only [putTo, List.mem_append] at hx
  rcases hx with (h | h) | h
  · exact hl x (List.mem_of_mem_take h)
  · exact hd x h
  · exact hl x (List.mem_of_mem_drop h)
def putW (im : List (List Sec)) (x : Wr) : List (List Sec) := im.set x.vol.toNat (putTo ((im[x.vol.toNat]?).getD []) x.start.toNat x.data)
def applyGo (sizes : List Int) : List (List Sec) → Int → List Wr → List (List Sec) × Int × Int
  | out, _, [] => (out, 0, 0)
  | out, i, x :: r => if fitsErr sizes x ≠ 0 then ([], i, fitsErr sizes x) else applyGo sizes (putW out x) (i + 1) r
def applySp (im : List (List Sec)) (l : List Wr) : List (List Sec) × Int × Int := if imErr im ≠ 0 then ([], 0, imErr im) else applyGo (sizesOf im) im 0 l
theorem applyGo_end {sizes : List Int} {out : List (List Sec)} {i : Int} {l : List Wr} {k : Nat} (h : l.length ≤ k) : applyGo sizes out i (l.drop k) = (out, 0, 0) := by rw [List.drop_of_length_le h]; rfl
theorem applyGo_bad {sizes : List Int} {out : List (List Sec)} {i : Int} {l : List Wr} {k : Nat} (h : k < l.length) (hb : fitsErr sizes l[k] ≠ 0) : applyGo sizes out i (l.drop k) = ([], i, fitsErr sizes l[k]) := by
  rw [List.drop_eq_getElem_cons h, applyGo, if_pos hb]
theorem applyGo_good {sizes : List Int} {out : List (List Sec)} {i : Int} {l : List Wr} {k : Nat} (h : k < l.length) (hb : ¬ fitsErr sizes l[k] ≠ 0) : applyGo sizes out i (l.drop k) = applyGo sizes (putW out l[k]) (i + 1) (l.drop (k + 1)) := by
  rw [List.drop_eq_getElem_cons h, applyGo, if_neg hb]
/-- A write that fits stays within its volume. -/
theorem fits_at_vol {im : List (List Sec)} {x : Wr} (h : ¬ fitsErr (sizesOf im) x ≠ 0) : 0 ≤ x.vol ∧ 0 ≤ x.start ∧ ∃ hv : x.vol.toNat < im.length, x.start.toNat + x.data.length ≤ (im[x.vol.toNat]'hv).length := by
  have h' : fitsErr (sizesOf im) x = 0 := by omega
  unfold fitsErr at h'
  split at h'
  · cases h'
  · split at h'
    · cases h'
    · split at h'
      · cases h'
      · rename_i q1 q2 q3
        rw [sizesOf_len] at q1
        have hv : x.vol.toNat < im.length := by omega
        rw [sizes_get hv] at q3
        exact ⟨by omega, by omega, hv, by omega⟩
theorem putW_sizes {im : List (List Sec)} {x : Wr} (h : ¬ fitsErr (sizesOf im) x ≠ 0) : sizesOf (putW im x) = sizesOf im := by
  obtain ⟨h1, h2, hv, h3⟩ := fits_at_vol h
  apply List.ext_getElem?
  intro j
  simp only [sizesOf, putW, List.getElem?_map, List.getElem?_set]
  split
  · rename_i e; subst e
    try rw [if_pos hv]
    rw [List.getElem?_eq_getElem hv]
    simp only [Option.map_some, Option.getD_some]
    rw [putTo_len h3]
  · rfl
theorem putW_len (im : List (List Sec)) (x : Wr) : (putW im x).length = im.length := by simp [putW]
theorem putW_ok {im : List (List Sec)} {x : Wr} (h : ImOk im) (hd : ∀ s ∈ x.data, SecOk s) : ImOk (putW im x) := by
  intro l hl s hs
  rcases List.mem_or_eq_of_mem_set hl with h' | rfl
  · exact h l h' s hs
  · refine putTo_ok (fun y hy => ?_) hd s hs
    cases hc : im[x.vol.toNat]? with
    | none => rw [hc] at hy; cases hy
    | some l => rw [hc] at hy; exact h l (List.mem_of_getElem? hc) y hy
theorem putW_at {im : List (List Sec)} {x : Wr} (hv : x.vol.toNat < im.length) : putW im x = im.set x.vol.toNat (putTo im[x.vol.toNat] x.start.toNat x.data) := by
  unfold putW; rw [List.getElem?_eq_getElem hv]; rfl
theorem erase_perm {α : Type} : ∀ {l : List α} {i : Nat} (h : i < l.length), l.Perm (l[i] :: l.eraseIdx i)
  | x :: l, 0, _ => .refl _
  | x :: l, i + 1, h => ((erase_perm (l := l) (i := i) (by simpa using h)).cons x).trans (.swap _ _ _)
/-- One inner row comes to the front, and goes back. -/
theorem inn_out {α : Type} {f : α → List Value} {e sz : Nat} {cs : List Value} {im : List (List α)} {i : Nat} {q : Value} {l : List α} {o : Own} {O1 : List Own} (h1 : cs[i]? = some q) (h2 : im[i]? = some l) :
    (o :: (inn f e sz cs im ++ O1)).Perm (⟨q, e, sz, l.length, l.flatMap f⟩ :: o :: ((inn f e sz cs im).eraseIdx i ++ O1)) := by
  have hg := inn_get (f := f) (e := e) (sz := sz) h1 h2
  obtain ⟨hi, hx⟩ := List.getElem?_eq_some_iff.1 hg
  have hp := erase_perm hi
  rw [hx] at hp
  exact ((hp.append_right O1).cons o).trans (List.Perm.swap _ _ _)
theorem inn_in {α : Type} {f : α → List Value} {e sz : Nat} {cs : List Value} {im : List (List α)} {i : Nat} {q : Value} {l : List α} {o : Own} {O1 : List Own} (h1 : cs[i]? = some q) (hi : i < im.length) :
    (⟨q, e, sz, l.length, l.flatMap f⟩ :: o :: ((inn f e sz cs im).eraseIdx i ++ O1)).Perm (o :: (inn f e sz cs (im.set i l) ++ O1)) := by
  have := inn_out (f := f) (e := e) (sz := sz) (im := im.set i l) (l := l) (o := o) (O1 := O1) h1 (by rw [List.getElem?_set_self hi])
  refine List.Perm.symm ?_
  rw [← inn_set h1, List.eraseIdx_set_eq] at this
  rw [← inn_set h1]; exact this
end Go.Proofs.YtiolpldihoghiaaDoor

namespace Go.Proofs.YtiolpldihoghiaaDoor
open Go.RowKit
set_option linter.unusedVariables false
set_option linter.unusedSimpArgs false
set_option maxHeartbeats 4000000
theorem rCopyIm_any (M : Nat → Prop) (im : List (List Sec)) (A : Option Addr) (c : Nat) (w : World) (hl : im.length ≤ 1000000) (hv : ∀ l ∈ im, l.length ≤ 1000000) (hF : Stab w M (Row kVol 1 A im)) :
    Ret Tryd.prog 25 [.slice A im.length c] w (FreshG gSec 61 71 8 w im) := by
  refine enter (M := M) (F := [Row kVol 1 A im]) Tryd.func25 rfl rfl rfl (by simpa using hF) fun H => ?_
  repeat' (first | (apply l_rd; exact rd_go; rfl) | (apply q_rd; exact rd_go; rfl) | refine stp ?_ | refine bk_o rfl ?_ | refine c_true ⟨rfl, rfl⟩ ?_ | refine c_false ⟨rfl, rfl⟩ ?_ | (apply l_rdg; rfl; rfl; rfl; exact rd_go; rfl) | refine l_skip rfl rfl rfl rfl ?_ | (apply q_rdg; rfl; rfl; rfl; exact rd_go; rfl) | refine q_skip rfl rfl rfl rfl ?_ | refine c_draw H (by kernel_rfl) ?_ | (refine q_end ?_; clear H; intro _ H) | ((first | refine l_st (z_box H ?_) | refine l_st (s_alloc H rfl ?_)); clear H; intro _ _ _ H) | (refine l_st (t_build0 H rfl ?_); clear H; intro _ _ _ _ H) | (refine l_st (z_sto H ?_); clear H; intro _ H) | ((first | refine c_cond ⟨rfl, rfl⟩ ?_ ?_ | refine c_ncond ⟨rfl, rfl⟩ ?_ ?_ | refine l_split rfl rfl ?_ ?_ | refine q_split rfl rfl ?_ ?_ | refine l_nsplit rfl rfl ?_ ?_ | refine q_nsplit rfl rfl ?_ ?_) <;> intro _ <;> try (exfalso; omega)))
  refine c_loopk [4, 3] [0] (fun n vs w' => ∃ (i : Nat) (A3 : Option Addr) (c3 : Nat) (cs : List Value), vs = [.int .i64 i, .slice A3 i c3] ∧ i ≤ im.length ∧ n = im.length - i ∧ cs.length = i ∧
      Hp w M w' [] (⟨.slice A3 i c3, 61, 1, i, cs⟩ :: inn gSec 71 8 cs (im.take i)) [Row kVol 1 A im]) _ [_] rfl ⟨0, none, 0, [], rfl, Nat.zero_le _, rfl, rfl, H.own_nil _ _⟩ ?_
  clear H
  rintro n _ E0 w2 ⟨i, A3, c3, cs, rfl, hi, rfl, hcl, H⟩
  by_cases hi' : i < im.length
  · obtain ⟨A7, c7, _, _, H1⟩ := H.openS (dd := kSec) (sz := 8) (A := A) (xs := im) (i := i) mem_auto hi'
    clear H; have H := H1; clear H1
    have hvi := hv _ (List.getElem_mem hi')
    repeat' (first | (apply l_rd; exact rd_go; rfl) | (apply q_rd; exact rd_go; rfl) | refine stp ?_ | refine bk_o rfl ?_ | refine c_true ⟨rfl, rfl⟩ ?_ | refine c_false ⟨rfl, rfl⟩ ?_ | (apply l_rdg; rfl; rfl; rfl; exact rd_go; rfl) | refine l_skip rfl rfl rfl rfl ?_ | (apply q_rdg; rfl; rfl; rfl; exact rd_go; rfl) | refine q_skip rfl rfl rfl rfl ?_ | refine c_draw H (by kernel_rfl) ?_ | (refine q_end ?_; clear H; intro _ H) | ((first | refine l_st (z_box H ?_) | refine l_st (s_alloc H rfl ?_)); clear H; intro _ _ _ H) | (refine l_st (t_build0 H rfl ?_); clear H; intro _ _ _ _ H) | (refine l_st (z_sto H ?_); clear H; intro _ H) | ((first | refine c_cond ⟨rfl, rfl⟩ ?_ ?_ | refine c_ncond ⟨rfl, rfl⟩ ?_ ?_ | refine l_split rfl rfl ?_ ?_ | refine q_split rfl rfl ?_ ?_ | refine l_nsplit rfl rfl ?_ ?_ | refine q_nsplit rfl rfl ?_ ?_) <;> intro _ <;> try (exfalso; omega)))
    have H1 := H.own_nil 71 8
    clear H; have H := H1; clear H1
    refine l_st (t_append_row (j := 0) (dd := kSec) (xs := im[i]) H rfl ⟨rfl, rfl⟩ ⟨rfl, rfl⟩ mem_auto (by omega) rfl ?_)
    clear H; intro A9 c9 w5 news _ hch H
    obtain rfl := chunks_sec hch
    simp only [Nat.zero_add, List.nil_append, List.set_cons_zero] at H ⊢
    refine l_app (j := 1) (n := i) H rfl ⟨rfl, rfl⟩ rfl rfl rfl rfl rfl (fun _ => ⟨rfl, rfl⟩) (by omega) rfl ?_
    clear H; intro A10 c10 w6 _ _ H
    repeat' (first | (apply l_rd; exact rd_go; rfl) | (apply q_rd; exact rd_go; rfl) | refine stp ?_ | refine bk_o rfl ?_ | refine c_true ⟨rfl, rfl⟩ ?_ | refine c_false ⟨rfl, rfl⟩ ?_ | (apply l_rdg; rfl; rfl; rfl; exact rd_go; rfl) | refine l_skip rfl rfl rfl rfl ?_ | (apply q_rdg; rfl; rfl; rfl; exact rd_go; rfl) | refine q_skip rfl rfl rfl rfl ?_ | refine c_draw H (by kernel_rfl) ?_ | (refine q_end ?_; clear H; intro _ H) | ((first | refine l_st (z_box H ?_) | refine l_st (s_alloc H rfl ?_)); clear H; intro _ _ _ H) | (refine l_st (t_build0 H rfl ?_); clear H; intro _ _ _ _ H) | (refine l_st (z_sto H ?_); clear H; intro _ H) | ((first | refine c_cond ⟨rfl, rfl⟩ ?_ ?_ | refine c_ncond ⟨rfl, rfl⟩ ?_ ?_ | refine l_split rfl rfl ?_ ?_ | refine q_split rfl rfl ?_ ?_ | refine l_nsplit rfl rfl ?_ ?_ | refine q_nsplit rfl rfl ?_ ?_) <;> intro _ <;> try (exfalso; omega)))
    refine lk_n rfl (n' := im.length - (i + 1)) (by omega) ⟨i + 1, A10, c10, cs ++ [.slice A9 im[i].length c9], rfl, hi', rfl, by simp [hcl], ?_⟩
    have hp : (⟨.slice A9 im[i].length c9, 71, 8, im[i].length, im[i].flatMap gSec⟩ :: ⟨.slice A10 (i + 1) c10, 61, 1, i + 1, cs ++ [.slice A9 im[i].length c9]⟩ :: inn gSec 71 8 cs (im.take i) : List Own).Perm
        (⟨.slice A10 (i + 1) c10, 61, 1, i + 1, cs ++ [.slice A9 im[i].length c9]⟩ :: inn gSec 71 8 (cs ++ [.slice A9 im[i].length c9]) (im.take (i + 1))) := by
      rw [List.take_succ_eq_append_getElem hi', inn_snoc (by rw [List.length_take]; omega)]
      exact (List.Perm.swap _ _ _).trans ((List.perm_append_singleton _ _).symm.cons _)
    exact (H.perm hp).weak (List.nil_sublist _) (List.Sublist.refl _) (by simp)
  · have hi2 : i = im.length := by omega
    subst hi2
    repeat' (first | (apply l_rd; exact rd_go; rfl) | (apply q_rd; exact rd_go; rfl) | refine stp ?_ | refine bk_o rfl ?_ | refine c_true ⟨rfl, rfl⟩ ?_ | refine c_false ⟨rfl, rfl⟩ ?_ | (apply l_rdg; rfl; rfl; rfl; exact rd_go; rfl) | refine l_skip rfl rfl rfl rfl ?_ | (apply q_rdg; rfl; rfl; rfl; exact rd_go; rfl) | refine q_skip rfl rfl rfl rfl ?_ | refine c_draw H (by kernel_rfl) ?_ | (refine q_end ?_; clear H; intro _ H) | ((first | refine l_st (z_box H ?_) | refine l_st (s_alloc H rfl ?_)); clear H; intro _ _ _ H) | (refine l_st (t_build0 H rfl ?_); clear H; intro _ _ _ _ H) | (refine l_st (z_sto H ?_); clear H; intro _ H) | ((first | refine c_cond ⟨rfl, rfl⟩ ?_ ?_ | refine c_ncond ⟨rfl, rfl⟩ ?_ ?_ | refine l_split rfl rfl ?_ ?_ | refine q_split rfl rfl ?_ ?_ | refine l_nsplit rfl rfl ?_ ?_ | refine q_nsplit rfl rfl ?_ ?_) <;> intro _ <;> try (exfalso; omega)))
    rw [List.take_length] at H
    exact ret1 H rfl rfl rfl (H.freshG (O1 := []) (by rw [List.append_nil]; rfl) rfl hcl)
end Go.Proofs.YtiolpldihoghiaaDoor
